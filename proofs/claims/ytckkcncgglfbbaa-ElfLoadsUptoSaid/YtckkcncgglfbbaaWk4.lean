/-
  CONTRACTS of the elf package: Write; walked by program.
-/
import Derived.Test.YtckkcncgglfbbaaWk3
import Derived.Test.YtckkcncgglfbbaaWrite
namespace Go.Proofs.Ytckkcncgglfbbaa
open Go Go.RowKit
set_option linter.unusedVariables false

set_option maxHeartbeats 1000000 in
theorem Write10 (i : Img) (hi : ImgOk i) :
    ACalls Try.prog 10 [imgT i] [] (fun t S => ∃ A c, t = .tup [.v (.slice A (WriteF i).length c), .v (.int .i64 (errOf (checkedB i true)))] ∧ S = [.row A (WriteF i).length c 5 1 (List.map u8 (WriteF i))]) := by
  obtain ⟨hi1, hi2, hi3, hi4⟩ := hi
  have hi := (⟨hi1, hi2, hi3, hi4⟩ : ImgOk i)
  refine ACalls.intro Try.func10 rfl Try.ntmps10 (Nat.le_of_ble_eq_true rfl) rfl fun X w0 => ?_
  refine AW.rseq ?_
  refine AWL.boxOp rfl rfl (B rfl) rfl (E rfl rfl) rfl (fun b1 => ?_)
  refine AWL.y rfl rfl (B rfl) (Yv.assign rfl (E rfl rfl)) ?_
  refine AWL.y rfl rfl (B rfl) (Yv.assign rfl (E rfl rfl)) ?_
  refine AWL.nil ?_
  refine AW.seq ?_
  refine AW.rseq ?_
  refine AWL.y rfl rfl (B rfl) (Yv.loadBoxA rfl ag_25 (i := 0) rfl (E rfl rfl) rfl rfl) ?_
  refine AWL.callP rfl rfl (B rfl) rfl ce_11 (E rfl rfl) (evsC (E rfl rfl) evs0) (check11 i hi) (fun t S h => h) ?_
  refine AWL.y rfl rfl (B rfl) (Yv.assign rfl (E rfl rfl)) ?_
  refine AWL.nil ?_
  refine AW.rseq ?_
  refine AWL.y rfl rfl (B rfl) (Yv.move rfl (E rfl rfl)) ?_
  refine AWL.y rfl rfl (B rfl) (Yv.neq rfl (E rfl rfl) (E rfl rfl)) ?_
  refine AWL.nil ?_
  refine AW.cond rfl (fun h0t => ?_) (fun h0f => ?_)
  ·
    try replace h0t := of_decide_eq_true h0t
    simp only [Bool.or_eq_true, Bool.and_eq_true, Bool.or_eq_false_iff, Bool.and_eq_false_iff, Bool.not_eq_true', Bool.not_eq_false', decide_eq_true_eq, decide_eq_false_iff_not, Decidable.not_not] at h0t
    have hc := (errOf_ne _).1 h0t
    refine AW.rowNil 5 1 ?_
    refine AW.dropAt 0 ?_
    refine AW.rseq ?_
    refine AWL.y rfl rfl (B rfl) (Yv.move rfl (E rfl rfl)) ?_
    refine AWL.y rfl rfl (B rfl) (Yv.assign rfl (E rfl rfl)) ?_
    refine AWL.y rfl rfl (B rfl) (Yv.assign rfl (E rfl rfl)) ?_
    refine AWL.nil ?_
    refine AW.ret (retI (.tmp rfl (.tmp rfl .nil)) ?_)
    have e : WriteF i = [] := by unfold WriteF; rw [hc]; rfl
    rw [e, hc]
    exact ⟨none, 0, rfl, rfl⟩
  ·
    try replace h0f := of_decide_eq_false h0f
    simp only [Bool.or_eq_true, Bool.and_eq_true, Bool.or_eq_false_iff, Bool.and_eq_false_iff, Bool.not_eq_true', Bool.not_eq_false', decide_eq_true_eq, decide_eq_false_iff_not, Decidable.not_not] at h0f
    have hc : checkedB i true = true := by
      rw [← Bool.not_eq_false]; intro h; exact (errOf_ne _).2 h h0f
    have hcf := checked_facts hc
    obtain ⟨hn1, hn64, hmay⟩ := hcf
    refine AW.skip ?_
    refine AW.rseq ?_
    refine AWL.y rfl rfl (B rfl) (Yv.fieldBox rfl fo_25_1 (E rfl rfl)) ?_
    refine AWL.y rfl rfl (B rfl) (Yv.loadBox rfl ag_23 (i := 0) rfl (E rfl rfl) rfl) ?_
    refine AWL.y rfl rfl (B rfl) (Yv.lenSl rfl so_23 (B rfl) (E rfl rfl) len_segs) ?_
    refine AWL.y rfl rfl (B rfl) (Yv.assign rfl (E rfl rfl)) ?_
    refine AWL.nil ?_
    refine AW.rseq ?_
    refine AWL.buildSliceRow rfl rfl (B rfl) rfl el_27 (B rfl) rfl (evsC (E rfl rfl) (evsC (E rfl rfl) (evsC (E rfl rfl) (evsC (E rfl rfl) (evsC (E rfl rfl) (evsC (E rfl rfl) (evsC (E rfl rfl) evs0))))))) (Nat.le_of_ble_eq_true rfl) rfl rfl (fun A25 => ?_)
    refine AWL.markRow (i := 1) rfl rfl (B rfl) rfl so_27 kd_5 (B rfl) rfl (E rfl rfl) ?_
    refine AWL.appendZeros (i := 1) (m := 9) rfl rfl (B rfl) rfl el_27 kd_3 (B rfl) rfl (E rfl rfl) (E rfl rfl) (by omega) (by decide) (by omega) (fun A27 c27 => ?_)
    refine AWL.y rfl rfl (B rfl) (Yv.assign rfl (E rfl rfl)) ?_
    refine AWL.nil ?_
    refine AW.perm (List.Perm.swap _ _ _) ?_
    refine AW.rseq ?_
    refine AWL.y rfl rfl (B rfl) (Yv.move rfl (E rfl rfl)) ?_
    refine AWL.call rfl rfl (B rfl) rfl ce_21 (E rfl rfl) (evsC (E rfl rfl) (evsC (E rfl rfl) evs0)) (S1 := [.row _ _ _ 5 1 (List.map u8 magic16)]) (S2 := _) rfl (put21 _ _ _ _ _ (by omega) (by omega) (by omega)) ?_
    rintro t29 S29 ⟨A29, c29, rfl, rfl⟩
    refine AWL.call rfl rfl (B rfl) rfl ce_21 (E rfl rfl) (evsC (E rfl rfl) (evsC (E rfl rfl) evs0)) (S1 := [.row _ _ _ 5 1 (List.map u8 _)]) (S2 := _) rfl (put21 _ _ _ _ _ (by omega) (by omega) (by omega)) ?_
    rintro t30 S30 ⟨A30, c30, rfl, rfl⟩
    refine AWL.call rfl rfl (B rfl) rfl ce_20 (E rfl rfl) (evsC (E rfl rfl) (evsC (E rfl rfl) evs0)) (S1 := [.row _ _ _ 5 1 (List.map u8 _)]) (S2 := _) rfl (put20 _ _ _ _ _ (by omega) (by omega) (by omega)) ?_
    rintro t31 S31 ⟨A31, c31, rfl, rfl⟩
    refine AWL.y rfl rfl (B rfl) (Yv.assign rfl (E rfl rfl)) ?_
    refine AWL.nil ?_
    refine AW.rseq ?_
    refine AWL.y rfl rfl (B rfl) (Yv.move rfl (E rfl rfl)) ?_
    refine AWL.y rfl rfl (B rfl) (Yv.fieldBox rfl fo_25_0 (E rfl rfl)) ?_
    refine AWL.y rfl rfl (B rfl) (Yv.loadBox rfl ag_22 (i := 1) rfl (E rfl rfl) rfl) ?_
    refine AWL.call rfl rfl (B rfl) rfl ce_22 (E rfl rfl) (evsC (E rfl rfl) (evsC (E rfl rfl) evs0)) (S1 := [.row _ _ _ 5 1 (List.map u8 _)]) (S2 := _) rfl (put22 _ _ _ _ _ (by omega) (by omega) (by omega)) ?_
    rintro t35 S35 ⟨A35, c35, rfl, rfl⟩
    refine AWL.call rfl rfl (B rfl) rfl ce_22 (E rfl rfl) (evsC (E rfl rfl) (evsC (E rfl rfl) evs0)) (S1 := [.row _ _ _ 5 1 (List.map u8 _)]) (S2 := _) rfl (put22 _ _ _ _ _ (by omega) (by omega) (by omega)) ?_
    rintro t36 S36 ⟨A36, c36, rfl, rfl⟩
    refine AWL.call rfl rfl (B rfl) rfl ce_22 (E rfl rfl) (evsC (E rfl rfl) (evsC (E rfl rfl) evs0)) (S1 := [.row _ _ _ 5 1 (List.map u8 _)]) (S2 := _) rfl (put22 _ _ _ _ _ (by omega) (by omega) (by omega)) ?_
    rintro t37 S37 ⟨A37, c37, rfl, rfl⟩
    refine AWL.y rfl rfl (B rfl) (Yv.assign rfl (E rfl rfl)) ?_
    refine AWL.nil ?_
    refine AW.rseq ?_
    refine AWL.y rfl rfl (B rfl) (Yv.move rfl (E rfl rfl)) ?_
    refine AWL.call rfl rfl (B rfl) rfl ce_20 (E rfl rfl) (evsC (E rfl rfl) (evsC (E rfl rfl) evs0)) (S1 := [.row _ _ _ 5 1 (List.map u8 _)]) (S2 := _) rfl (put20 _ _ _ _ _ (by omega) (by omega) (by omega)) ?_
    rintro t39 S39 ⟨A39, c39, rfl, rfl⟩
    refine AWL.y rfl rfl (B rfl) (Yv.assign rfl (E rfl rfl)) ?_
    refine AWL.nil ?_
    refine AW.seq ?_
    refine AW.rseq ?_
    refine AWL.y rfl rfl (B rfl) (Yv.move rfl (E rfl rfl)) ?_
    refine AWL.y rfl rfl (B rfl) (Yv.convN_u16 rfl Try.underlying3 kd_47 (E rfl rfl) (fun hg => by omega)) ?_
    refine AWL.buildSlice1 rfl rfl (B rfl) rfl el_49 rfl (evsC (E rfl rfl) (evsC (E rfl rfl) (evsC (E rfl rfl) (evsC (E rfl rfl) (evsC (E rfl rfl) (evsC (E rfl rfl) evs0)))))) (Nat.le_of_ble_eq_true rfl) rfl rfl ?_
    refine AWL.y rfl rfl (B rfl) (Yv.lenSl (n := 6) rfl so_49 (B rfl) (E rfl rfl) rfl) ?_
    refine AWL.y rfl rfl (B rfl) (Yv.move rfl (E rfl rfl)) ?_
    refine AWL.nil ?_
    refine AW.block ?_
    refine AW.loop3 (fun (j : Nat) (A : Option Addr) (c : Nat) => [(1, true, .v (.pointer (some ⟨b1, 0, none⟩))), (5, true, .v (.int .i64 (i.segs.length : Int))), (6, true, .v (.slice A (52 + 2 * j) c)), (42, true, .sl 1 (List.map u16t (six16 i.segs.length))), (43, true, .v (.int .i64 6)), (44, true, .v (.int .i64 (j : Int)))]) (fun (j : Nat) (A : Option Addr) (c : Nat) => [.row A (52 + 2 * j) c 5 1 (List.map u8 (hdrA i.entry ++ ((six16 i.segs.length).take j).flatMap (leBytes 2))), .box b1 25 [.v (.int .u64 i.entry), .sl 4 (i.segs.flatMap segCells)]]) (fun (j : Nat) (A : Option Addr) (c : Nat) => j ≤ 6) (fun (j : Nat) (A : Option Addr) (c : Nat) => 6 - j) 0 A39 c39 ?_ ?_ ?_ ?_
    · exact Nat.zero_le _
    · exact (Sub.cons rfl rfl (Sub.cons rfl rfl (Sub.cons rfl rfl (Sub.cons rfl rfl (Sub.cons rfl rfl (Sub.cons rfl rfl Sub.nil))))))
    · simp only [List.take_zero, List.flatMap_nil, List.append_nil]; rfl
    ·
      intro j A c hinv
      refine AW.rseq ?_
      refine AWL.y rfl rfl (B rfl) (Yv.lss rfl (E rfl rfl) (E rfl rfl)) ?_
      refine AWL.nil ?_
      refine AW.seq ?_
      refine AW.cond rfl (fun h1t => ?_) (fun h1f => ?_)
      ·
        try replace h1t := of_decide_eq_true h1t
        have hx := six16_range (n := i.segs.length) (j := j) hn64 (by omega)
        refine AW.skip ?_
        refine AW.seq ?_
        refine AW.block ?_
        refine AW.rseq ?_
        refine AWL.y rfl rfl (B rfl) (Yv.indexSl rfl ss_49 (B rfl) (E rfl rfl) (E rfl rfl) (fun hg => ⟨rfl, (by first | omega | (simp only [len_u16, len_u64, six16_len, six64_len, len_u8s, len_segs]; omega))⟩)) ?_
        refine AWL.y rfl rfl (B rfl) (Yv.loadRp rfl ag_47 (E rfl rfl) (fun hg => u16_get (by simp only [six16_len]; omega))) ?_
        refine AWL.y rfl rfl (B rfl) (Yv.assign rfl (E rfl rfl)) ?_
        refine AWL.nil ?_
        refine AW.region ?_
        refine AWL.y rfl rfl (B rfl) (Yv.move rfl (E rfl rfl)) ?_
        refine AWL.y rfl rfl (B rfl) (Yv.move rfl (E rfl rfl)) ?_
        refine AWL.call rfl rfl (B rfl) rfl ce_21 (E rfl rfl) (evsC (E rfl rfl) (evsC (E rfl rfl) evs0)) (S1 := [.row _ _ _ 5 1 (List.map u8 _)]) (S2 := _) rfl (put21 _ _ _ _ _ (by omega) (by omega) (by omega)) ?_
        rintro t50 S50 ⟨A50, c50, rfl, rfl⟩
        refine AWL.y rfl rfl (B rfl) (Yv.assign rfl (E rfl rfl)) ?_
        refine AWL.nil ?_
        refine AW.region ?_
        refine AWL.y rfl rfl (B rfl) (Yv.addN_i64 rfl (E rfl rfl) (E rfl rfl) (fun hg => by omega)) ?_
        refine AWL.y rfl rfl (B rfl) (Yv.move rfl (E rfl rfl)) ?_
        refine AWL.nil ?_
        refine ⟨j + 1, A50, c50, by omega, by omega, ?_, ?_⟩
        · exact (Sub.cons rfl rfl (Sub.cons rfl rfl (Sub.cons rfl rfl (Sub.cons rfl rfl (Sub.cons rfl rfl (Sub.cons rfl (by simp) Sub.nil))))))
        · rw [take_flat (by simp only [six16_len]; omega), ← List.append_assoc]; rfl
      ·
        try replace h1f := of_decide_eq_false h1f
        refine AW.exit ?_
        obtain rfl : j = 6 := by omega
        refine AW.rseq ?_
        refine AWL.y rfl rfl (B rfl) (Yv.move rfl (E rfl rfl)) ?_
        refine AWL.y rfl rfl (B rfl) (Yv.mulN_i64 rfl (E rfl rfl) (E rfl rfl) (fun hg => by omega)) ?_
        refine AWL.y rfl rfl (B rfl) (Yv.addN_i64 rfl (E rfl rfl) (E rfl rfl) (fun hg => by omega)) ?_
        refine AWL.y rfl rfl (B rfl) (Yv.convN_u64 rfl Try.underlying3 kd_22 (E rfl rfl) (fun hg => by omega)) ?_
        refine AWL.y rfl rfl (B rfl) (Yv.assign rfl (E rfl rfl)) ?_
        refine AWL.nil ?_
        refine AW.seq ?_
        refine AW.rseq ?_
        refine AWL.y rfl rfl (B rfl) (Yv.fieldBox rfl fo_25_1 (E rfl rfl)) ?_
        refine AWL.y rfl rfl (B rfl) (Yv.loadBox rfl ag_23 (i := 1) rfl (E rfl rfl) rfl) ?_
        refine AWL.y rfl rfl (B rfl) (Yv.lenSl rfl so_23 (B rfl) (E rfl rfl) len_segs) ?_
        refine AWL.y rfl rfl (B rfl) (Yv.move rfl (E rfl rfl)) ?_
        refine AWL.nil ?_
        refine AW.block ?_
        refine AW.loop5 (fun (j : Nat) (at_ : Int) (A2 : Option Addr) (c2 : Nat) (bs : List UInt8) => [(1, true, .v (.pointer (some ⟨b1, 0, none⟩))), (6, true, .v (.slice A2 bs.length c2)), (9, true, .v (.int .u64 at_)), (57, true, .sl 4 (i.segs.flatMap segCells)), (58, true, .v (.int .i64 (i.segs.length : Int))), (59, true, .v (.int .i64 (j : Int)))]) (fun (j : Nat) (at_ : Int) (A2 : Option Addr) (c2 : Nat) (bs : List UInt8) => [.row A2 bs.length c2 5 1 (List.map u8 bs), .box b1 25 [.v (.int .u64 i.entry), .sl 4 (i.segs.flatMap segCells)]]) (fun (j : Nat) (at_ : Int) (A2 : Option Addr) (c2 : Nat) (bs : List UInt8) => j ≤ i.segs.length ∧ 0 ≤ at_ ∧ at_ ≤ 4096 + j * 1099511631872 ∧ bs.length = 64 + 56 * j ∧ bs ++ rowsF (i.segs.drop j) at_ = hdrF i ++ rowsF i.segs (64 + i.segs.length * 56)) (fun (j : Nat) (at_ : Int) (A2 : Option Addr) (c2 : Nat) (bs : List UInt8) => i.segs.length - j) 0 (64 + i.segs.length * 56) A c (hdrF i) ?_ ?_ ?_ ?_
        · exact ⟨Nat.zero_le _, by omega, by omega, hdrF_len i, rfl⟩
        · exact (Sub.cons rfl rfl (Sub.cons rfl (congrArg (fun q => T.v (.slice A q c)) (by rw [hdrF_len])) (Sub.cons rfl rfl (Sub.cons rfl rfl (Sub.cons rfl rfl (Sub.cons rfl rfl Sub.nil))))))
        · rw [hdrF_len]; rfl
        ·
          intro j at_ A2 c2 bs hinv
          obtain ⟨hj, ha1, ha2, hbl, hrow⟩ := hinv
          refine AW.rseq ?_
          refine AWL.y rfl rfl (B rfl) (Yv.lss rfl (E rfl rfl) (E rfl rfl)) ?_
          refine AWL.nil ?_
          refine AW.seq ?_
          refine AW.cond rfl (fun h2t => ?_) (fun h2f => ?_)
          ·
            try replace h2t := of_decide_eq_true h2t
            have hsg := seg_ok hi (j := j) (by omega)
            have hsg2 := hsg
            obtain ⟨s1, s2, s3, s4, s5, s6, s7⟩ := hsg2
            have hm := hmay _ (seg_mem (j := j) (by omega))
            obtain ⟨m1, m2, m3⟩ := hm
            refine AW.skip ?_
            refine AW.seq ?_
            refine AW.block ?_
            refine AW.rseq ?_
            refine AWL.y rfl rfl (B rfl) (Yv.indexSl rfl ss_23 (B rfl) (E rfl rfl) (E rfl rfl) (fun hg => ⟨rfl, (by first | omega | (simp only [len_u16, len_u64, six16_len, six64_len, len_u8s, len_segs]; omega))⟩)) ?_
            refine AWL.y rfl rfl (B rfl) (Yv.loadRpA rfl ag_42 (E rfl rfl) (fun hg => seg_get (by omega))) ?_
            refine AWL.allocOp rfl rfl (B rfl) rfl zc_42 (fun b11 => ?_)
            refine AWL.storeBox (i := 2) rfl rfl rfl ag_42 rfl (E rfl rfl) (E rfl rfl) rfl rfl (Nat.le_of_ble_eq_true rfl) ?_
            refine AWL.nil ?_
            refine AW.rseq ?_
            refine AWL.y rfl rfl (B rfl) (Yv.assign rfl (E rfl rfl)) ?_
            refine AWL.nil ?_
            refine AW.mid (α := Unit) (fun _ => [(1, true, .v (.pointer (some ⟨b1, 0, none⟩))), (6, true, .v (.slice A2 bs.length c2)), (9, true, .v (.int .u64 (nextAt (i.segs.getD j default) at_))), (11, true, .v (.pointer (some ⟨b11, 0, none⟩))), (12, true, .v (.int .u64 (placeOf (i.segs.getD j default) at_))), (57, true, .sl 4 (i.segs.flatMap segCells)), (58, true, .v (.int .i64 (i.segs.length : Int))), (59, true, .v (.int .i64 (j : Int)))]) (fun _ => [.row A2 bs.length c2 5 1 (List.map u8 bs), .box b1 25 [.v (.int .u64 i.entry), .sl 4 (i.segs.flatMap segCells)], .box b11 42 [.v (.int .u64 (i.segs.getD j default).at_), .v (.int .u64 (i.segs.getD j default).size), .v (.int .i64 (i.segs.getD j default).may), .sl 1 ((i.segs.getD j default).data.map u8)]]) (fun _ => True) ?_ ?_
            ·
              refine AW.rseq ?_
              refine AWL.y rfl rfl (B rfl) (Yv.fieldBox rfl fo_42_3 (E rfl rfl)) ?_
              refine AWL.y rfl rfl (B rfl) (Yv.loadBox rfl ag_27 (i := 2) rfl (E rfl rfl) rfl) ?_
              refine AWL.y rfl rfl (B rfl) (Yv.lenSl rfl so_27 (B rfl) (E rfl rfl) len_u8s) ?_
              refine AWL.y rfl rfl (B rfl) (Yv.gtr rfl (E rfl rfl) (E rfl rfl)) ?_
              refine AWL.nil ?_
              refine AW.cond rfl (fun h3t => ?_) (fun h3f => ?_)
              ·
                try replace h3t := of_decide_eq_true h3t
                have hl : 0 < (i.segs.getD j default).data.length := by omega
                refine AW.rseq ?_
                refine AWL.y rfl rfl (B rfl) (Yv.move rfl (E rfl rfl)) ?_
                refine AWL.y rfl rfl (B rfl) (Yv.addN_u64 rfl (E rfl rfl) (E rfl rfl) (fun hg => by omega)) ?_
                refine AWL.y rfl rfl (B rfl) (Yv.subN_u64 rfl (E rfl rfl) (E rfl rfl) (fun hg => by omega)) ?_
                refine AWL.y rfl rfl (B rfl) (Yv.quoN_u64 rfl (E rfl rfl) (E rfl rfl) (fun hg => by omega)) ?_
                refine AWL.y rfl rfl (B rfl) (Yv.mulN_u64 rfl (E rfl rfl) (E rfl rfl) (fun hg => by omega)) ?_
                refine AWL.y rfl rfl (B rfl) (Yv.assign rfl (E rfl rfl)) ?_
                refine AWL.nil ?_
                refine AW.region ?_
                refine AWL.y rfl rfl (B rfl) (Yv.move rfl (E rfl rfl)) ?_
                refine AWL.y rfl rfl (B rfl) (Yv.fieldBox rfl fo_42_3 (E rfl rfl)) ?_
                refine AWL.y rfl rfl (B rfl) (Yv.loadBox rfl ag_27 (i := 2) rfl (E rfl rfl) rfl) ?_
                refine AWL.y rfl rfl (B rfl) (Yv.lenSl rfl so_27 (B rfl) (E rfl rfl) len_u8s) ?_
                refine AWL.y rfl rfl (B rfl) (Yv.convN_u64 rfl Try.underlying3 kd_22 (E rfl rfl) (fun hg => by omega)) ?_
                refine AWL.y rfl rfl (B rfl) (Yv.addN_u64 rfl (E rfl rfl) (E rfl rfl) (fun hg => by omega)) ?_
                refine AWL.y rfl rfl (B rfl) (Yv.assign rfl (E rfl rfl)) ?_
                refine AWL.nil ?_
                exact ⟨(), trivial, (Sub.cons rfl rfl (Sub.cons rfl rfl (Sub.cons rfl (congrArg (fun q => T.v (.int .u64 q)) (by unfold nextAt; rw [if_pos hl]; omega)) (Sub.cons rfl rfl (Sub.cons rfl (congrArg (fun q => T.v (.int .u64 q)) (by unfold placeOf; rw [if_pos hl]; omega)) (Sub.cons rfl rfl (Sub.cons rfl rfl (Sub.cons rfl rfl Sub.nil)))))))), rfl⟩
              ·
                try replace h3f := of_decide_eq_false h3f
                have hl : ¬ 0 < (i.segs.getD j default).data.length := by omega
                refine AW.skip ?_
                exact ⟨(), trivial, (Sub.cons rfl rfl (Sub.cons rfl rfl (Sub.cons rfl (congrArg (fun q => T.v (.int .u64 q)) (by unfold nextAt; rw [if_neg hl])) (Sub.cons rfl rfl (Sub.cons rfl (congrArg (fun q => T.v (.int .u64 q)) (by unfold placeOf; rw [if_neg hl])) (Sub.cons rfl rfl (Sub.cons rfl rfl (Sub.cons rfl rfl Sub.nil)))))))), rfl⟩
            ·
              rintro _ _
              have hplace : 0 ≤ placeOf (i.segs.getD j default) at_ ∧ placeOf (i.segs.getD j default) at_ ≤ 18446744073709551615 := by unfold placeOf; split <;> omega
              refine AW.mid (α := Option Addr × Nat) (fun q => [(1, true, .v (.pointer (some ⟨b1, 0, none⟩))), (6, true, .v (.slice q.1 (bs.length + 4 + 4) q.2)), (9, true, .v (.int .u64 (nextAt (i.segs.getD j default) at_))), (11, true, .v (.pointer (some ⟨b11, 0, none⟩))), (12, true, .v (.int .u64 (placeOf (i.segs.getD j default) at_))), (57, true, .sl 4 (i.segs.flatMap segCells)), (58, true, .v (.int .i64 (i.segs.length : Int))), (59, true, .v (.int .i64 (j : Int)))]) (fun q => [.row q.1 (bs.length + 4 + 4) q.2 5 1 (List.map u8 (bs ++ leBytes 4 1 ++ leBytes 4 (i.segs.getD j default).may)), .box b1 25 [.v (.int .u64 i.entry), .sl 4 (i.segs.flatMap segCells)], .box b11 42 [.v (.int .u64 (i.segs.getD j default).at_), .v (.int .u64 (i.segs.getD j default).size), .v (.int .i64 (i.segs.getD j default).may), .sl 1 ((i.segs.getD j default).data.map u8)]]) (fun _ => True) ?_ ?_
              · refine AW.regionP rfl ?_
                refine AWP.take (i := 0) rfl (by kernel_rfl) (by kernel_rfl) (by kernel_rfl) rfl rfl (B rfl) (freeMove rfl (E rfl rfl)) ?_
                refine AWP.take (i := 2) rfl (by kernel_rfl) (by kernel_rfl) (by kernel_rfl) rfl rfl (B rfl) (freeField rfl fo_42_2 (E rfl rfl)) ?_
                refine AWP.two (i := 1) (j := 3) (by kernel_rfl) rfl rfl ?_ ?_
                · skip
                  refine AWL.call rfl rfl (B rfl) rfl ce_20 (E rfl rfl) (evsC (E rfl rfl) (evsC (E rfl rfl) evs0)) (S1 := [.row _ _ _ 5 1 (List.map u8 _)]) (S2 := _) rfl (put20 _ _ _ _ _ (by omega) (by omega) (by omega)) ?_
                  rintro t79 S79 ⟨A79, c79, rfl, rfl⟩
                  refine AWL.nil ?_
                  refine AWP.one (i := 3) (by kernel_rfl) rfl ?_
                  refine AWL.y rfl rfl (B rfl) (Yv.loadBox rfl ag_3 (i := 2) rfl (E rfl rfl) rfl) ?_
                  refine AWL.nil ?_
                  refine AWP.one (i := 4) (by kernel_rfl) rfl ?_
                  refine AWL.callP rfl rfl (B rfl) rfl ce_23 (E rfl rfl) (evsC (E rfl rfl) evs0) (flags23 _ (by omega) (by omega)) (fun t S h => h) ?_
                  refine AWL.nil ?_
                  refine AWP.one (i := 5) (by kernel_rfl) rfl ?_
                  refine AWL.call rfl rfl (B rfl) rfl ce_20 (E rfl rfl) (evsC (E rfl rfl) (evsC (E rfl rfl) evs0)) (S1 := [.row _ _ _ 5 1 (List.map u8 _)]) (S2 := _) rfl (put20 _ _ _ _ _ (by omega) (by omega) (by omega)) ?_
                  rintro t83 S83 ⟨A83, c83, rfl, rfl⟩
                  refine AWL.nil ?_
                  refine AWP.one (i := 6) (by kernel_rfl) rfl ?_
                  refine AWL.y rfl rfl (B rfl) (Yv.assign rfl (E rfl rfl)) ?_
                  refine AWL.nil ?_
                  refine AWP.done (by kernel_rfl) ?_
                  exact ⟨(A83, c83), trivial, (Sub.cons rfl rfl (Sub.cons rfl rfl (Sub.cons rfl rfl (Sub.cons rfl rfl (Sub.cons rfl rfl (Sub.cons rfl rfl (Sub.cons rfl rfl (Sub.cons rfl rfl Sub.nil)))))))), rfl⟩
                · skip
                  refine AWL.y rfl rfl (B rfl) (Yv.loadBox rfl ag_3 (i := 2) rfl (E rfl rfl) rfl) ?_
                  refine AWL.nil ?_
                  refine AWP.one (i := 1) (by kernel_rfl) rfl ?_
                  refine AWL.call rfl rfl (B rfl) rfl ce_20 (E rfl rfl) (evsC (E rfl rfl) (evsC (E rfl rfl) evs0)) (S1 := [.row _ _ _ 5 1 (List.map u8 _)]) (S2 := _) rfl (put20 _ _ _ _ _ (by omega) (by omega) (by omega)) ?_
                  rintro t79 S79 ⟨A79, c79, rfl, rfl⟩
                  refine AWL.nil ?_
                  refine AWP.one (i := 4) (by kernel_rfl) rfl ?_
                  refine AWL.callP rfl rfl (B rfl) rfl ce_23 (E rfl rfl) (evsC (E rfl rfl) evs0) (flags23 _ (by omega) (by omega)) (fun t S h => h) ?_
                  refine AWL.nil ?_
                  refine AWP.one (i := 5) (by kernel_rfl) rfl ?_
                  refine AWL.call rfl rfl (B rfl) rfl ce_20 (E rfl rfl) (evsC (E rfl rfl) (evsC (E rfl rfl) evs0)) (S1 := [.row _ _ _ 5 1 (List.map u8 _)]) (S2 := _) rfl (put20 _ _ _ _ _ (by omega) (by omega) (by omega)) ?_
                  rintro t83 S83 ⟨A83, c83, rfl, rfl⟩
                  refine AWL.nil ?_
                  refine AWP.one (i := 6) (by kernel_rfl) rfl ?_
                  refine AWL.y rfl rfl (B rfl) (Yv.assign rfl (E rfl rfl)) ?_
                  refine AWL.nil ?_
                  refine AWP.done (by kernel_rfl) ?_
                  exact ⟨(A83, c83), trivial, (Sub.cons rfl rfl (Sub.cons rfl rfl (Sub.cons rfl rfl (Sub.cons rfl rfl (Sub.cons rfl rfl (Sub.cons rfl rfl (Sub.cons rfl rfl (Sub.cons rfl rfl Sub.nil)))))))), rfl⟩
              rintro ⟨A83, c83⟩ _
              refine AW.rseq ?_
              refine AWL.y rfl rfl (B rfl) (Yv.move rfl (E rfl rfl)) ?_
              refine AWL.y rfl rfl (B rfl) (Yv.fieldBox rfl fo_42_0 (E rfl rfl)) ?_
              refine AWL.y rfl rfl (B rfl) (Yv.loadBox rfl ag_22 (i := 2) rfl (E rfl rfl) rfl) ?_
              refine AWL.y rfl rfl (B rfl) (Yv.fieldBox rfl fo_42_0 (E rfl rfl)) ?_
              refine AWL.y rfl rfl (B rfl) (Yv.loadBox rfl ag_22 (i := 2) rfl (E rfl rfl) rfl) ?_
              refine AWL.y rfl rfl (B rfl) (Yv.fieldBox rfl fo_42_3 (E rfl rfl)) ?_
              refine AWL.y rfl rfl (B rfl) (Yv.loadBox rfl ag_27 (i := 2) rfl (E rfl rfl) rfl) ?_
              refine AWL.y rfl rfl (B rfl) (Yv.lenSl rfl so_27 (B rfl) (E rfl rfl) len_u8s) ?_
              refine AWL.y rfl rfl (B rfl) (Yv.convN_u64 rfl Try.underlying3 kd_22 (E rfl rfl) (fun hg => by omega)) ?_
              refine AWL.y rfl rfl (B rfl) (Yv.fieldBox rfl fo_42_1 (E rfl rfl)) ?_
              refine AWL.y rfl rfl (B rfl) (Yv.loadBox rfl ag_22 (i := 2) rfl (E rfl rfl) rfl) ?_
              refine AWL.buildSlice1 rfl rfl (B rfl) rfl el_51 rfl (evsC (E rfl rfl) (evsC (E rfl rfl) (evsC (E rfl rfl) (evsC (E rfl rfl) (evsC (E rfl rfl) (evsC (E rfl rfl) evs0)))))) (Nat.le_of_ble_eq_true rfl) rfl rfl ?_
              refine AWL.y rfl rfl (B rfl) (Yv.lenSl (n := 6) rfl so_51 (B rfl) (E rfl rfl) rfl) ?_
              refine AWL.y rfl rfl (B rfl) (Yv.move rfl (E rfl rfl)) ?_
              refine AWL.nil ?_
              refine AW.block ?_
              refine AW.loop3 (fun (k : Nat) (A3 : Option Addr) (c3 : Nat) => [(1, true, .v (.pointer (some ⟨b1, 0, none⟩))), (6, true, .v (.slice A3 (bs.length + 4 + 4 + 8 * k) c3)), (9, true, .v (.int .u64 (nextAt (i.segs.getD j default) at_))), (57, true, .sl 4 (i.segs.flatMap segCells)), (58, true, .v (.int .i64 (i.segs.length : Int))), (59, true, .v (.int .i64 (j : Int))), (95, true, .sl 1 (List.map u64t (six64 (i.segs.getD j default) (placeOf (i.segs.getD j default) at_)))), (96, true, .v (.int .i64 6)), (97, true, .v (.int .i64 (k : Int)))]) (fun (k : Nat) (A3 : Option Addr) (c3 : Nat) => [.row A3 (bs.length + 4 + 4 + 8 * k) c3 5 1 (List.map u8 ((bs ++ leBytes 4 1 ++ leBytes 4 (i.segs.getD j default).may) ++ ((six64 (i.segs.getD j default) (placeOf (i.segs.getD j default) at_)).take k).flatMap (leBytes 8))), .box b1 25 [.v (.int .u64 i.entry), .sl 4 (i.segs.flatMap segCells)], .box b11 42 [.v (.int .u64 (i.segs.getD j default).at_), .v (.int .u64 (i.segs.getD j default).size), .v (.int .i64 (i.segs.getD j default).may), .sl 1 ((i.segs.getD j default).data.map u8)]]) (fun (k : Nat) (A3 : Option Addr) (c3 : Nat) => k ≤ 6) (fun (k : Nat) (A3 : Option Addr) (c3 : Nat) => 6 - k) 0 A83 c83 ?_ ?_ ?_ ?_
              · exact Nat.zero_le _
              · exact (Sub.cons rfl rfl (Sub.cons rfl rfl (Sub.cons rfl rfl (Sub.cons rfl rfl (Sub.cons rfl rfl (Sub.cons rfl rfl (Sub.cons rfl rfl (Sub.cons rfl rfl (Sub.cons rfl rfl Sub.nil)))))))))
              · simp only [List.take_zero, List.flatMap_nil, List.append_nil]
              ·
                intro k A3 c3 hinv
                refine AW.rseq ?_
                refine AWL.y rfl rfl (B rfl) (Yv.lss rfl (E rfl rfl) (E rfl rfl)) ?_
                refine AWL.nil ?_
                refine AW.seq ?_
                refine AW.cond rfl (fun h4t => ?_) (fun h4f => ?_)
                ·
                  try replace h4t := of_decide_eq_true h4t
                  have hx := six64_range (s := (i.segs.getD j default)) (p := (placeOf (i.segs.getD j default) at_)) (j := k) hsg hplace (by omega)
                  refine AW.skip ?_
                  refine AW.seq ?_
                  refine AW.block ?_
                  refine AW.rseq ?_
                  refine AWL.y rfl rfl (B rfl) (Yv.indexSl rfl ss_51 (B rfl) (E rfl rfl) (E rfl rfl) (fun hg => ⟨rfl, (by first | omega | (simp only [len_u16, len_u64, six16_len, six64_len, len_u8s, len_segs]; omega))⟩)) ?_
                  refine AWL.y rfl rfl (B rfl) (Yv.loadRp rfl ag_22 (E rfl rfl) (fun hg => u64_get (by simp only [six64_len]; omega))) ?_
                  refine AWL.y rfl rfl (B rfl) (Yv.assign rfl (E rfl rfl)) ?_
                  refine AWL.nil ?_
                  refine AW.region ?_
                  refine AWL.y rfl rfl (B rfl) (Yv.move rfl (E rfl rfl)) ?_
                  refine AWL.y rfl rfl (B rfl) (Yv.move rfl (E rfl rfl)) ?_
                  refine AWL.call rfl rfl (B rfl) rfl ce_22 (E rfl rfl) (evsC (E rfl rfl) (evsC (E rfl rfl) evs0)) (S1 := [.row _ _ _ 5 1 (List.map u8 _)]) (S2 := _) rfl (put22 _ _ _ _ _ (by omega) (by omega) (by omega)) ?_
                  rintro t103 S103 ⟨A103, c103, rfl, rfl⟩
                  refine AWL.y rfl rfl (B rfl) (Yv.assign rfl (E rfl rfl)) ?_
                  refine AWL.nil ?_
                  refine AW.region ?_
                  refine AWL.y rfl rfl (B rfl) (Yv.addN_i64 rfl (E rfl rfl) (E rfl rfl) (fun hg => by omega)) ?_
                  refine AWL.y rfl rfl (B rfl) (Yv.move rfl (E rfl rfl)) ?_
                  refine AWL.nil ?_
                  refine ⟨k + 1, A103, c103, by omega, by omega, ?_, ?_⟩
                  · exact (Sub.cons rfl rfl (Sub.cons rfl rfl (Sub.cons rfl rfl (Sub.cons rfl rfl (Sub.cons rfl rfl (Sub.cons rfl rfl (Sub.cons rfl rfl (Sub.cons rfl rfl (Sub.cons rfl (by simp) Sub.nil)))))))))
                  · rw [take_flat (by simp only [six64_len]; omega), ← List.append_assoc]; rfl
                ·
                  try replace h4f := of_decide_eq_false h4f
                  refine AW.exit ?_
                  obtain rfl : k = 6 := by omega
                  refine AW.dropAt 2 ?_
                  refine AW.region ?_
                  refine AWL.y rfl rfl (B rfl) (Yv.addN_i64 rfl (E rfl rfl) (E rfl rfl) (fun hg => by omega)) ?_
                  refine AWL.y rfl rfl (B rfl) (Yv.move rfl (E rfl rfl)) ?_
                  refine AWL.nil ?_
                  have hnl : (bs ++ rowF (i.segs.getD j default) (placeOf (i.segs.getD j default) at_)).length = bs.length + 4 + 4 + 8 * 6 := by simp [rowF_len]
                  refine ⟨j + 1, nextAt (i.segs.getD j default) at_, A3, c3, bs ++ rowF (i.segs.getD j default) (placeOf (i.segs.getD j default) at_), ⟨by omega, ?_, ?_, by omega, ?_⟩, by omega, ?_, ?_⟩
                  · unfold nextAt; split <;> omega
                  · unfold nextAt; split <;> omega
                  · rw [← hrow, rowsF_drop (l := i.segs) (j := j) (by omega) at_, List.append_assoc]
                  · exact (Sub.cons rfl rfl (Sub.cons rfl (congrArg (fun q => T.v (.slice A3 q c3)) (by rw [hnl])) (Sub.cons rfl rfl (Sub.cons rfl rfl (Sub.cons rfl rfl (Sub.cons rfl (by simp) Sub.nil))))))
                  · rw [hnl]; simp only [rowF, ← List.append_assoc]; rfl
          ·
            try replace h2f := of_decide_eq_false h2f
            refine AW.exit ?_
            refine AW.seq ?_
            have hb2 : bs = hdrF i ++ rowsF i.segs (64 + i.segs.length * 56) := by
              rw [← hrow, List.drop_of_length_le (by omega)]; simp [rowsF]
            refine AW.rseq ?_
            refine AWL.y rfl rfl (B rfl) (Yv.fieldBox rfl fo_25_1 (E rfl rfl)) ?_
            refine AWL.y rfl rfl (B rfl) (Yv.loadBox rfl ag_23 (i := 1) rfl (E rfl rfl) rfl) ?_
            refine AWL.y rfl rfl (B rfl) (Yv.lenSl rfl so_23 (B rfl) (E rfl rfl) len_segs) ?_
            refine AWL.y rfl rfl (B rfl) (Yv.move rfl (E rfl rfl)) ?_
            refine AWL.nil ?_
            refine AW.block ?_
            refine AW.loop4 (fun (j : Nat) (A4 : Option Addr) (c4 : Nat) (out : List UInt8) => [(1, true, .v (.pointer (some ⟨b1, 0, none⟩))), (6, true, .v (.slice A4 out.length c4)), (107, true, .sl 4 (i.segs.flatMap segCells)), (108, true, .v (.int .i64 (i.segs.length : Int))), (109, true, .v (.int .i64 (j : Int)))]) (fun (j : Nat) (A4 : Option Addr) (c4 : Nat) (out : List UInt8) => [.row A4 out.length c4 5 1 (List.map u8 out), .box b1 25 [.v (.int .u64 i.entry), .sl 4 (i.segs.flatMap segCells)]]) (fun (j : Nat) (A4 : Option Addr) (c4 : Nat) (out : List UInt8) => j ≤ i.segs.length ∧ (out.length : Int) ≤ 8192 + j * 1099511631872 ∧ dataF (i.segs.drop j) out = writeF i) (fun (j : Nat) (A4 : Option Addr) (c4 : Nat) (out : List UInt8) => i.segs.length - j) 0 A2 c2 bs ?_ ?_ ?_ ?_
            · exact ⟨Nat.zero_le _, by omega, by rw [hb2]; rfl⟩
            · exact (Sub.cons rfl rfl (Sub.cons rfl rfl (Sub.cons rfl rfl (Sub.cons rfl rfl (Sub.cons rfl rfl Sub.nil)))))
            · rfl
            ·
              intro j A4 c4 out hinv
              obtain ⟨hj, hol, hdat⟩ := hinv
              refine AW.rseq ?_
              refine AWL.y rfl rfl (B rfl) (Yv.lss rfl (E rfl rfl) (E rfl rfl)) ?_
              refine AWL.nil ?_
              refine AW.seq ?_
              refine AW.cond rfl (fun h5t => ?_) (fun h5f => ?_)
              ·
                try replace h5t := of_decide_eq_true h5t
                have hsg := seg_ok hi (j := j) (by omega)
                obtain ⟨s1, s2, s3, s4, s5, s6, s7⟩ := hsg
                refine AW.skip ?_
                refine AW.seq ?_
                refine AW.block ?_
                refine AW.rseq ?_
                refine AWL.y rfl rfl (B rfl) (Yv.indexSl rfl ss_23 (B rfl) (E rfl rfl) (E rfl rfl) (fun hg => ⟨rfl, (by first | omega | (simp only [len_u16, len_u64, six16_len, six64_len, len_u8s, len_segs]; omega))⟩)) ?_
                refine AWL.y rfl rfl (B rfl) (Yv.loadRpA rfl ag_42 (E rfl rfl) (fun hg => seg_get (by omega))) ?_
                refine AWL.allocOp rfl rfl (B rfl) rfl zc_42 (fun b16 => ?_)
                refine AWL.storeBox (i := 2) rfl rfl rfl ag_42 rfl (E rfl rfl) (E rfl rfl) rfl rfl (Nat.le_of_ble_eq_true rfl) ?_
                refine AWL.nil ?_
                refine AW.rseq ?_
                refine AWL.y rfl rfl (B rfl) (Yv.fieldBox rfl fo_42_3 (E rfl rfl)) ?_
                refine AWL.y rfl rfl (B rfl) (Yv.loadBox rfl ag_27 (i := 2) rfl (E rfl rfl) rfl) ?_
                refine AWL.y rfl rfl (B rfl) (Yv.lenSl rfl so_27 (B rfl) (E rfl rfl) len_u8s) ?_
                refine AWL.y rfl rfl (B rfl) (Yv.gtr rfl (E rfl rfl) (E rfl rfl)) ?_
                refine AWL.nil ?_
                refine AW.cond rfl (fun h6t => ?_) (fun h6f => ?_)
                ·
                  try replace h6t := of_decide_eq_true h6t
                  have hl : 0 < (i.segs.getD j default).data.length := by omega
                  refine AW.seq ?_
                  refine AW.block ?_
                  refine AW.loop3 (fun (k : Nat) (A5 : Option Addr) (c5 : Nat) => [(1, true, .v (.pointer (some ⟨b1, 0, none⟩))), (6, true, .v (.slice A5 (out.length + k) c5)), (16, true, .v (.pointer (some ⟨b16, 0, none⟩))), (107, true, .sl 4 (i.segs.flatMap segCells)), (108, true, .v (.int .i64 (i.segs.length : Int))), (109, true, .v (.int .i64 (j : Int)))]) (fun (k : Nat) (A5 : Option Addr) (c5 : Nat) => [.row A5 (out.length + k) c5 5 1 (List.map u8 (out ++ List.replicate k 0)), .box b1 25 [.v (.int .u64 i.entry), .sl 4 (i.segs.flatMap segCells)], .box b16 42 [.v (.int .u64 (i.segs.getD j default).at_), .v (.int .u64 (i.segs.getD j default).size), .v (.int .i64 (i.segs.getD j default).may), .sl 1 ((i.segs.getD j default).data.map u8)]]) (fun (k : Nat) (A5 : Option Addr) (c5 : Nat) => k ≤ pad out.length) (fun (k : Nat) (A5 : Option Addr) (c5 : Nat) => pad out.length - k) 0 A4 c4 ?_ ?_ ?_ ?_
                  · exact Nat.zero_le _
                  · exact (Sub.cons rfl rfl (Sub.cons rfl rfl (Sub.cons rfl rfl (Sub.cons rfl rfl (Sub.cons rfl rfl (Sub.cons rfl rfl Sub.nil))))))
                  · simp only [List.replicate_zero, List.append_nil]; rfl
                  ·
                    intro k A5 c5 hinv
                    have hp : pad out.length < 4096 := by unfold pad; omega
                    refine AW.seq ?_
                    refine AW.rseq ?_
                    refine AWL.y rfl rfl (B rfl) (Yv.move rfl (E rfl rfl)) ?_
                    refine AWL.y rfl rfl (B rfl) (Yv.lenV rfl so_27 (E rfl rfl)) ?_
                    refine AWL.y rfl rfl (B rfl) (Yv.remN rfl (E rfl rfl) (E rfl rfl) (fun hg => by omega)) ?_
                    refine AWL.y rfl rfl (B rfl) (Yv.gtr rfl (E rfl rfl) (E rfl rfl)) ?_
                    refine AWL.nil ?_
                    refine AW.cond rfl (fun h7t => ?_) (fun h7f => ?_)
                    ·
                      try replace h7t := of_decide_eq_true h7t
                      refine AW.skip ?_
                      refine AW.block ?_
                      refine AW.region ?_
                      refine AWL.y rfl rfl (B rfl) (Yv.move rfl (E rfl rfl)) ?_
                      refine AWL.buildSlice1 rfl rfl (B rfl) rfl el_27 rfl (evsC (E rfl rfl) evs0) (Nat.le_of_ble_eq_true rfl) rfl rfl ?_
                      refine AWL.appendRow (i := 0) rfl rfl (B rfl) rfl el_27 (B rfl) rfl (E rfl rfl) (SrcT.sl so_27 (B rfl) (E rfl rfl) rfl) (by unfold maxLen; omega) (by omega) (fun A123 c123 => ?_)
                      refine AWL.y rfl rfl (B rfl) (Yv.assign rfl (E rfl rfl)) ?_
                      refine AWL.nil ?_
                      refine ⟨k + 1, A123, c123, by unfold pad at *; omega, by unfold pad at *; omega, ?_, ?_⟩
                      · exact (Sub.cons rfl rfl (Sub.cons rfl rfl (Sub.cons rfl rfl (Sub.cons rfl rfl (Sub.cons rfl rfl (Sub.cons rfl rfl Sub.nil))))))
                      · simp only [List.replicate_succ', ← List.append_assoc, List.map_append]; rfl
                    ·
                      try replace h7f := of_decide_eq_false h7f
                      refine AW.exit ?_
                      refine AW.region ?_
                      refine AWL.y rfl rfl (B rfl) (Yv.move rfl (E rfl rfl)) ?_
                      refine AWL.y rfl rfl (B rfl) (Yv.fieldBox rfl fo_42_3 (E rfl rfl)) ?_
                      refine AWL.y rfl rfl (B rfl) (Yv.loadBox rfl ag_27 (i := 2) rfl (E rfl rfl) rfl) ?_
                      refine AWL.appendRow (i := 0) rfl rfl (B rfl) rfl el_27 (B rfl) rfl (E rfl rfl) (SrcT.sl so_27 (B rfl) (E rfl rfl) len_u8s) (by unfold maxLen; omega) (by omega) (fun A127 c127 => ?_)
                      refine AWL.y rfl rfl (B rfl) (Yv.assign rfl (E rfl rfl)) ?_
                      refine AWL.nil ?_
                      refine AW.dropAt 2 ?_
                      refine AW.region ?_
                      refine AWL.y rfl rfl (B rfl) (Yv.addN_i64 rfl (E rfl rfl) (E rfl rfl) (fun hg => by omega)) ?_
                      refine AWL.y rfl rfl (B rfl) (Yv.move rfl (E rfl rfl)) ?_
                      refine AWL.nil ?_
                      have hp : pad out.length < 4096 := by unfold pad; omega
                      have hk : k = pad out.length := by unfold pad at *; omega
                      subst hk
                      have hnl : (out ++ List.replicate (pad out.length) 0 ++ (i.segs.getD j default).data).length = out.length + pad out.length + (i.segs.getD j default).data.length := by simp only [List.length_append, List.length_replicate]
                      refine ⟨j + 1, A127, c127, out ++ List.replicate (pad out.length) 0 ++ (i.segs.getD j default).data, ⟨by omega, by omega, ?_⟩, by omega, ?_, ?_⟩
                      · rw [← hdat, dataF_drop (l := i.segs) (j := j) (by omega) out, if_pos hl]
                      · exact (Sub.cons rfl rfl (Sub.cons rfl (congrArg (fun q => T.v (.slice A127 q c127)) (by rw [hnl])) (Sub.cons rfl rfl (Sub.cons rfl rfl (Sub.cons rfl (by simp) Sub.nil)))))
                      · rw [hnl]; simp only [List.map_append]; rfl
                ·
                  try replace h6f := of_decide_eq_false h6f
                  have hl : ¬ 0 < (i.segs.getD j default).data.length := by omega
                  refine AW.skip ?_
                  refine AW.dropAt 2 ?_
                  refine AW.region ?_
                  refine AWL.y rfl rfl (B rfl) (Yv.addN_i64 rfl (E rfl rfl) (E rfl rfl) (fun hg => by omega)) ?_
                  refine AWL.y rfl rfl (B rfl) (Yv.move rfl (E rfl rfl)) ?_
                  refine AWL.nil ?_
                  refine ⟨j + 1, A4, c4, out, ⟨by omega, by omega, ?_⟩, by omega, ?_, rfl⟩
                  · rw [← hdat, dataF_drop (l := i.segs) (j := j) (by omega) out, if_neg hl]
                  · exact (Sub.cons rfl rfl (Sub.cons rfl rfl (Sub.cons rfl rfl (Sub.cons rfl rfl (Sub.cons rfl (by simp) Sub.nil)))))
              ·
                try replace h5f := of_decide_eq_false h5f
                refine AW.exit ?_
                refine AW.dropAt 1 ?_
                refine AW.rseq ?_
                refine AWL.y rfl rfl (B rfl) (Yv.move rfl (E rfl rfl)) ?_
                refine AWL.y rfl rfl (B rfl) (Yv.assign rfl (E rfl rfl)) ?_
                refine AWL.y rfl rfl (B rfl) (Yv.assign rfl (E rfl rfl)) ?_
                refine AWL.nil ?_
                refine AW.ret (retI (.tmp rfl (.tmp rfl .nil)) ?_)
                have e : WriteF i = out := by
                  unfold WriteF
                  rw [hc, if_pos rfl, ← hdat, List.drop_of_length_le (by omega)]; rfl
                rw [e, hc]
                exact ⟨A4, c4, rfl, rfl⟩

end Go.Proofs.Ytckkcncgglfbbaa
