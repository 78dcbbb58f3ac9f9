/-
  CONTRACTS of the document's answer and of the laws: Write; walked by program.
-/
import Derived.Test.YtckkcncgglfbbaaWk8
import Derived.Test.YtckkcncgglfbbaaRef
namespace Go.Proofs.Ytckkcncgglfbbaa
open Go Go.RowKit
set_option linter.unusedVariables false

set_option maxHeartbeats 1000000 in
theorem RefWrite9 (i : Img) (hi : ImgOk i) :
    ACalls Try.prog 9 [imgT i] [] (fun t S => ∃ A c, t = .tup [.v (.slice A (WriteF i).length c), .v (.int .i64 (errOf (checkedB i true)))] ∧ S = [.row A (WriteF i).length c 5 1 (List.map u8 (WriteF i))]) := by
  obtain ⟨hi1, hi2, hi3, hi4⟩ := hi
  have hi := (⟨hi1, hi2, hi3, hi4⟩ : ImgOk i)
  refine ACalls.intro Try.func9 rfl Try.ntmps9 (Nat.le_of_ble_eq_true rfl) rfl fun X w0 => ?_
  refine AW.rseq ?_
  refine AWL.boxOp rfl rfl (B rfl) rfl (E rfl rfl) rfl (fun b1 => ?_)
  refine AWL.y rfl rfl (B rfl) (Yv.assign rfl (E rfl rfl)) ?_
  refine AWL.y rfl rfl (B rfl) (Yv.assign rfl (E rfl rfl)) ?_
  refine AWL.nil ?_
  refine AW.rseq ?_
  refine AWL.y rfl rfl (B rfl) (Yv.loadBoxA rfl ag_25 (i := 0) rfl (E rfl rfl) rfl rfl) ?_
  refine AWL.callP rfl rfl (B rfl) rfl ce_12 (E rfl rfl) (evsC (E rfl rfl) evs0) (check12 i hi) (fun t S h => h) ?_
  refine AWL.y rfl rfl (B rfl) (Yv.assign rfl (E rfl rfl)) ?_
  refine AWL.nil ?_
  refine AW.seq ?_
  refine AW.rseq ?_
  refine AWL.y rfl rfl (B rfl) (Yv.move rfl (E rfl rfl)) ?_
  refine AWL.y rfl rfl (B rfl) (Yv.neq rfl (E rfl rfl) (E rfl rfl)) ?_
  refine AWL.nil ?_
  refine AW.cond rfl (fun h0t => ?_) (fun h0f => ?_)
  ·
    try replace h0t := of_decide_eq_true h0t
    simp only [Bool.or_eq_true, Bool.and_eq_true, Bool.or_eq_false_iff, Bool.and_eq_false_iff, Bool.not_eq_true', Bool.not_eq_false', decide_eq_true_eq, decide_eq_false_iff_not, Decidable.not_not] at h0t
    have hc := (errOf_ne _).1 h0t
    refine AW.rowNil 5 1 ?_
    refine AW.dropAt 0 ?_
    refine AW.rseq ?_
    refine AWL.y rfl rfl (B rfl) (Yv.move rfl (E rfl rfl)) ?_
    refine AWL.y rfl rfl (B rfl) (Yv.assign rfl (E rfl rfl)) ?_
    refine AWL.y rfl rfl (B rfl) (Yv.assign rfl (E rfl rfl)) ?_
    refine AWL.nil ?_
    refine AW.ret (retI (.tmp rfl (.tmp rfl .nil)) ?_)
    have e : WriteF i = [] := by unfold WriteF; rw [hc]; rfl
    rw [e, hc]
    exact ⟨none, 0, rfl, rfl⟩
  ·
    try replace h0f := of_decide_eq_false h0f
    simp only [Bool.or_eq_true, Bool.and_eq_true, Bool.or_eq_false_iff, Bool.and_eq_false_iff, Bool.not_eq_true', Bool.not_eq_false', decide_eq_true_eq, decide_eq_false_iff_not, Decidable.not_not] at h0f
    have hc : checkedB i true = true := by
      rw [← Bool.not_eq_false]; intro h; exact (errOf_ne _).2 h h0f
    have hcf := checked_facts hc
    obtain ⟨hn1, hn64, hmay⟩ := hcf
    refine AW.skip ?_
    refine AW.rseq ?_
    refine AWL.y rfl rfl (B rfl) (Yv.fieldBox rfl fo_25_1 (E rfl rfl)) ?_
    refine AWL.y rfl rfl (B rfl) (Yv.loadBox rfl ag_23 (i := 0) rfl (E rfl rfl) rfl) ?_
    refine AWL.y rfl rfl (B rfl) (Yv.lenSl rfl so_23 (B rfl) (E rfl rfl) len_segs) ?_
    refine AWL.y rfl rfl (B rfl) (Yv.assign rfl (E rfl rfl)) ?_
    refine AWL.nil ?_
    refine AW.rseq ?_
    refine AWL.buildSliceRow rfl rfl (B rfl) rfl el_27 (B rfl) rfl (evsC (E rfl rfl) (evsC (E rfl rfl) (evsC (E rfl rfl) (evsC (E rfl rfl) (evsC (E rfl rfl) (evsC (E rfl rfl) (evsC (E rfl rfl) (evsC (E rfl rfl) (evsC (E rfl rfl) (evsC (E rfl rfl) (evsC (E rfl rfl) (evsC (E rfl rfl) (evsC (E rfl rfl) (evsC (E rfl rfl) (evsC (E rfl rfl) (evsC (E rfl rfl) evs0)))))))))))))))) (Nat.le_of_ble_eq_true rfl) rfl rfl (fun A21 => ?_)
    refine AWL.y rfl rfl (B rfl) (Yv.assign rfl (E rfl rfl)) ?_
    refine AWL.nil ?_
    refine AW.rseq ?_
    refine AWL.y rfl rfl (B rfl) (Yv.move rfl (E rfl rfl)) ?_
    refine AWL.buildSlice1 rfl rfl (B rfl) rfl el_27 rfl (evsC (E rfl rfl) (evsC (E rfl rfl) (evsC (E rfl rfl) (evsC (E rfl rfl) (evsC (E rfl rfl) (evsC (E rfl rfl) (evsC (E rfl rfl) (evsC (E rfl rfl) evs0)))))))) (Nat.le_of_ble_eq_true rfl) rfl rfl ?_
    refine AWL.appendRow (i := 1) rfl rfl (B rfl) rfl el_27 (B rfl) rfl (E rfl rfl) (SrcT.sl so_27 (B rfl) (E rfl rfl) (m := 8) rfl) (by unfold maxLen; omega) (by omega) (fun A24 c24 => ?_)
    refine AWL.y rfl rfl (B rfl) (Yv.assign rfl (E rfl rfl)) ?_
    refine AWL.nil ?_
    refine AW.rseq ?_
    refine AWL.y rfl rfl (B rfl) (Yv.move rfl (E rfl rfl)) ?_
    refine AWL.y rfl rfl (B rfl) (Yv.fieldBox rfl fo_25_0 (E rfl rfl)) ?_
    refine AWL.y rfl rfl (B rfl) (Yv.loadBox rfl ag_22 (i := 0) rfl (E rfl rfl) rfl) ?_
    refine AWL.callT rfl rfl (B rfl) rfl ce_19 (E rfl rfl) (evsC (E rfl rfl) (evsC (E rfl rfl) evs0)) (Number19 _ 8 (by omega) (by omega) (by decide)) ?_
    rintro t28 S28 rfl
    refine AWL.appendRow (i := 1) rfl rfl (B rfl) rfl el_27 (B rfl) rfl (E rfl rfl) (SrcT.sl so_27 (B rfl) (E rfl rfl) len_leb) (by unfold maxLen; omega) (by omega) (fun A29 c29 => ?_)
    refine AWL.y rfl rfl (B rfl) (Yv.assign rfl (E rfl rfl)) ?_
    refine AWL.nil ?_
    refine AW.rseq ?_
    refine AWL.y rfl rfl (B rfl) (Yv.move rfl (E rfl rfl)) ?_
    refine AWL.callT rfl rfl (B rfl) rfl ce_19 (E rfl rfl) (evsC (E rfl rfl) (evsC (E rfl rfl) evs0)) (Number19 _ 8 (by omega) (by omega) (by decide)) ?_
    rintro t31 S31 rfl
    refine AWL.appendRow (i := 1) rfl rfl (B rfl) rfl el_27 (B rfl) rfl (E rfl rfl) (SrcT.sl so_27 (B rfl) (E rfl rfl) len_leb) (by unfold maxLen; omega) (by omega) (fun A32 c32 => ?_)
    refine AWL.y rfl rfl (B rfl) (Yv.assign rfl (E rfl rfl)) ?_
    refine AWL.nil ?_
    refine AW.rseq ?_
    refine AWL.y rfl rfl (B rfl) (Yv.move rfl (E rfl rfl)) ?_
    refine AWL.callT rfl rfl (B rfl) rfl ce_19 (E rfl rfl) (evsC (E rfl rfl) (evsC (E rfl rfl) evs0)) (Number19 _ 12 (by omega) (by omega) (by decide)) ?_
    rintro t34 S34 rfl
    refine AWL.appendRow (i := 1) rfl rfl (B rfl) rfl el_27 (B rfl) rfl (E rfl rfl) (SrcT.sl so_27 (B rfl) (E rfl rfl) len_leb) (by unfold maxLen; omega) (by omega) (fun A35 c35 => ?_)
    refine AWL.y rfl rfl (B rfl) (Yv.assign rfl (E rfl rfl)) ?_
    refine AWL.nil ?_
    refine AW.rseq ?_
    refine AWL.y rfl rfl (B rfl) (Yv.move rfl (E rfl rfl)) ?_
    refine AWL.y rfl rfl (B rfl) (Yv.move rfl (E rfl rfl)) ?_
    refine AWL.y rfl rfl (B rfl) (Yv.convN_u8 rfl Try.underlying3 kd_5 (E rfl rfl) (fun hg => by omega)) ?_
    refine AWL.buildSlice1 rfl rfl (B rfl) rfl el_27 rfl (evsC (E rfl rfl) (evsC (E rfl rfl) (evsC (E rfl rfl) (evsC (E rfl rfl) (evsC (E rfl rfl) (evsC (E rfl rfl) (evsC (E rfl rfl) (evsC (E rfl rfl) (evsC (E rfl rfl) (evsC (E rfl rfl) (evsC (E rfl rfl) (evsC (E rfl rfl) evs0)))))))))))) (Nat.le_of_ble_eq_true rfl) rfl rfl ?_
    refine AWL.appendRow (i := 1) rfl rfl (B rfl) rfl el_27 (B rfl) rfl (E rfl rfl) (SrcT.sl so_27 (B rfl) (E rfl rfl) (m := 12) rfl) (by unfold maxLen; omega) (by omega) (fun A40 c40 => ?_)
    refine AWL.y rfl rfl (B rfl) (Yv.assign rfl (E rfl rfl)) ?_
    refine AWL.nil ?_
    refine AW.rseq ?_
    refine AWL.y rfl rfl (B rfl) (Yv.move rfl (E rfl rfl)) ?_
    refine AWL.y rfl rfl (B rfl) (Yv.mulN_i64 rfl (E rfl rfl) (E rfl rfl) (fun hg => by omega)) ?_
    refine AWL.y rfl rfl (B rfl) (Yv.addN_i64 rfl (E rfl rfl) (E rfl rfl) (fun hg => by omega)) ?_
    refine AWL.y rfl rfl (B rfl) (Yv.assign rfl (E rfl rfl)) ?_
    refine AWL.nil ?_
    refine AW.seq ?_
    have hdr := hdr_cells i hn64
    refine AW.rseq ?_
    refine AWL.y rfl rfl (B rfl) (Yv.assign rfl (E rfl rfl)) ?_
    refine AWL.nil ?_
    refine AW.block ?_
    refine AW.loop5 (fun (j : Nat) (at_ : Int) (A : Option Addr) (c : Nat) (bs : List UInt8) => [(1, true, .v (.pointer (some ⟨b1, 0, none⟩))), (5, true, .v (.int .i64 (i.segs.length : Int))), (6, true, .v (.slice A bs.length c)), (7, true, .v (.int .i64 at_)), (8, true, .v (.int .i64 (j : Int)))]) (fun (j : Nat) (at_ : Int) (A : Option Addr) (c : Nat) (bs : List UInt8) => [.box b1 25 [.v (.int .u64 i.entry), .sl 4 (i.segs.flatMap segCells)], .row A bs.length c 5 1 (List.map u8 bs)]) (fun (j : Nat) (at_ : Int) (A : Option Addr) (c : Nat) (bs : List UInt8) => j ≤ i.segs.length ∧ 0 ≤ at_ ∧ at_ ≤ 4096 + j * 1099511631872 ∧ bs.length = 64 + 56 * j ∧ bs ++ rowsF (i.segs.drop j) at_ = hdrF i ++ rowsF i.segs (64 + i.segs.length * 56)) (fun (j : Nat) (at_ : Int) (A : Option Addr) (c : Nat) (bs : List UInt8) => i.segs.length - j) 0 (64 + i.segs.length * 56) A40 c40 (hdrF i) ?_ ?_ ?_ ?_
    · exact ⟨Nat.zero_le _, by omega, by omega, hdrF_len i, rfl⟩
    · exact (Sub.cons rfl rfl (Sub.cons rfl rfl (Sub.cons rfl (congrArg (fun q => T.v (.slice A40 q c40)) (by rw [hdrF_len])) (Sub.cons rfl (congrArg (fun q => T.v (.int .i64 q)) (by omega)) (Sub.cons rfl rfl Sub.nil)))))
    · rw [← hdr, hdrF_len]; rfl
    ·
      intro j at_ A c bs hinv
      obtain ⟨hj, ha1, ha2, hbl, hrow⟩ := hinv
      refine AW.seq ?_
      refine AW.rseq ?_
      refine AWL.y rfl rfl (B rfl) (Yv.move rfl (E rfl rfl)) ?_
      refine AWL.y rfl rfl (B rfl) (Yv.move rfl (E rfl rfl)) ?_
      refine AWL.y rfl rfl (B rfl) (Yv.lss rfl (E rfl rfl) (E rfl rfl)) ?_
      refine AWL.nil ?_
      refine AW.cond rfl (fun h1t => ?_) (fun h1f => ?_)
      ·
        try replace h1t := of_decide_eq_true h1t
        have hsg := seg_ok hi (j := j) (by omega)
        have hsg2 := hsg
        obtain ⟨s1, s2, s3, s4, s5, s6, s7⟩ := hsg2
        have hm := hmay _ (seg_mem (j := j) (by omega))
        obtain ⟨m1, m2, m3⟩ := hm
        refine AW.skip ?_
        refine AW.seq ?_
        refine AW.block ?_
        refine AW.rseq ?_
        refine AWL.y rfl rfl (B rfl) (Yv.fieldBox rfl fo_25_1 (E rfl rfl)) ?_
        refine AWL.y rfl rfl (B rfl) (Yv.loadBox rfl ag_23 (i := 0) rfl (E rfl rfl) rfl) ?_
        refine AWL.y rfl rfl (B rfl) (Yv.move rfl (E rfl rfl)) ?_
        refine AWL.y rfl rfl (B rfl) (Yv.indexSl rfl ss_23 (B rfl) (E rfl rfl) (E rfl rfl) (fun hg => ⟨rfl, (by first | omega | (simp only [len_leb, len_u8s, len_segs]; omega))⟩)) ?_
        refine AWL.y rfl rfl (B rfl) (Yv.loadRpA rfl ag_42 (E rfl rfl) (fun hg => seg_get (by omega))) ?_
        refine AWL.allocOp rfl rfl (B rfl) rfl zc_42 (fun b9 => ?_)
        refine AWL.storeBox (i := 2) rfl rfl rfl ag_42 rfl (E rfl rfl) (E rfl rfl) rfl rfl (Nat.le_of_ble_eq_true rfl) ?_
        refine AWL.nil ?_
        refine AW.rseq ?_
        refine AWL.y rfl rfl (B rfl) (Yv.assign rfl (E rfl rfl)) ?_
        refine AWL.nil ?_
        refine AW.mid (α := Unit) (fun _ => [(1, true, .v (.pointer (some ⟨b1, 0, none⟩))), (5, true, .v (.int .i64 (i.segs.length : Int))), (6, true, .v (.slice A bs.length c)), (7, true, .v (.int .i64 (nextAt (i.segs.getD j default) at_))), (8, true, .v (.int .i64 (j : Int))), (9, true, .v (.pointer (some ⟨b9, 0, none⟩))), (10, true, .v (.int .i64 (placeOf (i.segs.getD j default) at_)))]) (fun _ => [.box b1 25 [.v (.int .u64 i.entry), .sl 4 (i.segs.flatMap segCells)], .row A bs.length c 5 1 (List.map u8 bs), .box b9 42 [.v (.int .u64 (i.segs.getD j default).at_), .v (.int .u64 (i.segs.getD j default).size), .v (.int .i64 (i.segs.getD j default).may), .sl 1 ((i.segs.getD j default).data.map u8)]]) (fun _ => True) ?_ ?_
        ·
          refine AW.rseq ?_
          refine AWL.y rfl rfl (B rfl) (Yv.fieldBox rfl fo_42_3 (E rfl rfl)) ?_
          refine AWL.y rfl rfl (B rfl) (Yv.loadBox rfl ag_27 (i := 2) rfl (E rfl rfl) rfl) ?_
          refine AWL.y rfl rfl (B rfl) (Yv.lenSl rfl so_27 (B rfl) (E rfl rfl) len_u8s) ?_
          refine AWL.y rfl rfl (B rfl) (Yv.gtr rfl (E rfl rfl) (E rfl rfl)) ?_
          refine AWL.nil ?_
          refine AW.cond rfl (fun h2t => ?_) (fun h2f => ?_)
          ·
            try replace h2t := of_decide_eq_true h2t
            have hl : 0 < (i.segs.getD j default).data.length := by omega
            refine AW.rseq ?_
            refine AWL.y rfl rfl (B rfl) (Yv.move rfl (E rfl rfl)) ?_
            refine AWL.y rfl rfl (B rfl) (Yv.assign rfl (E rfl rfl)) ?_
            refine AWL.nil ?_
            refine AW.seq ?_
            refine AW.block ?_
            refine AW.loop (fun (k : Nat) => [(1, true, .v (.pointer (some ⟨b1, 0, none⟩))), (5, true, .v (.int .i64 (i.segs.length : Int))), (6, true, .v (.slice A bs.length c)), (7, true, .v (.int .i64 at_)), (8, true, .v (.int .i64 (j : Int))), (9, true, .v (.pointer (some ⟨b9, 0, none⟩))), (10, true, .v (.int .i64 (at_ + k)))]) (fun (k : Nat) => [.box b1 25 [.v (.int .u64 i.entry), .sl 4 (i.segs.flatMap segCells)], .row A bs.length c 5 1 (List.map u8 bs), .box b9 42 [.v (.int .u64 (i.segs.getD j default).at_), .v (.int .u64 (i.segs.getD j default).size), .v (.int .i64 (i.segs.getD j default).may), .sl 1 ((i.segs.getD j default).data.map u8)]]) (fun (k : Nat) => at_ + k ≤ (at_ + 4095) / 4096 * 4096) (fun (k : Nat) => ((at_ + 4095) / 4096 * 4096 - at_).toNat - k) 0 ?_ ?_ ?_ ?_
            · show at_ + ((0 : Nat) : Int) ≤ (at_ + 4095) / 4096 * 4096; omega
            · exact (Sub.cons rfl rfl (Sub.cons rfl rfl (Sub.cons rfl rfl (Sub.cons rfl rfl (Sub.cons rfl rfl (Sub.cons rfl rfl (Sub.cons rfl (by simp) Sub.nil)))))))
            · rfl
            ·
              intro k hinv
              refine AW.seq ?_
              refine AW.rseq ?_
              refine AWL.y rfl rfl (B rfl) (Yv.move rfl (E rfl rfl)) ?_
              refine AWL.y rfl rfl (B rfl) (Yv.remN rfl (E rfl rfl) (E rfl rfl) (fun hg => by omega)) ?_
              refine AWL.y rfl rfl (B rfl) (Yv.neq rfl (E rfl rfl) (E rfl rfl)) ?_
              refine AWL.nil ?_
              refine AW.cond rfl (fun h3t => ?_) (fun h3f => ?_)
              ·
                try replace h3t := of_decide_eq_true h3t
                simp only [Bool.or_eq_true, Bool.and_eq_true, Bool.or_eq_false_iff, Bool.and_eq_false_iff, Bool.not_eq_true', Bool.not_eq_false', decide_eq_true_eq, decide_eq_false_iff_not, Decidable.not_not] at h3t
                refine AW.skip ?_
                refine AW.block ?_
                refine AW.region ?_
                refine AWL.y rfl rfl (B rfl) (Yv.move rfl (E rfl rfl)) ?_
                refine AWL.y rfl rfl (B rfl) (Yv.addN_i64 rfl (E rfl rfl) (E rfl rfl) (fun hg => by omega)) ?_
                refine AWL.y rfl rfl (B rfl) (Yv.assign rfl (E rfl rfl)) ?_
                refine AWL.nil ?_
                refine ⟨k + 1, by omega, by omega, ?_, rfl⟩
                exact (Sub.cons rfl rfl (Sub.cons rfl rfl (Sub.cons rfl rfl (Sub.cons rfl rfl (Sub.cons rfl rfl (Sub.cons rfl rfl (Sub.cons rfl (congrArg (fun q => T.v (.int .i64 q)) (by omega)) Sub.nil)))))))
              ·
                try replace h3f := of_decide_eq_false h3f
                simp only [Bool.or_eq_true, Bool.and_eq_true, Bool.or_eq_false_iff, Bool.and_eq_false_iff, Bool.not_eq_true', Bool.not_eq_false', decide_eq_true_eq, decide_eq_false_iff_not, Decidable.not_not] at h3f
                refine AW.exit ?_
                refine AW.region ?_
                refine AWL.y rfl rfl (B rfl) (Yv.move rfl (E rfl rfl)) ?_
                refine AWL.y rfl rfl (B rfl) (Yv.fieldBox rfl fo_42_3 (E rfl rfl)) ?_
                refine AWL.y rfl rfl (B rfl) (Yv.loadBox rfl ag_27 (i := 2) rfl (E rfl rfl) rfl) ?_
                refine AWL.y rfl rfl (B rfl) (Yv.lenSl rfl so_27 (B rfl) (E rfl rfl) len_u8s) ?_
                refine AWL.y rfl rfl (B rfl) (Yv.addN_i64 rfl (E rfl rfl) (E rfl rfl) (fun hg => by omega)) ?_
                refine AWL.y rfl rfl (B rfl) (Yv.assign rfl (E rfl rfl)) ?_
                refine AWL.nil ?_
                exact ⟨(), trivial, (Sub.cons rfl rfl (Sub.cons rfl rfl (Sub.cons rfl rfl (Sub.cons rfl (congrArg (fun q => T.v (.int .i64 q)) (by unfold nextAt; rw [if_pos hl]; omega)) (Sub.cons rfl rfl (Sub.cons rfl rfl (Sub.cons rfl (congrArg (fun q => T.v (.int .i64 q)) (by unfold placeOf; rw [if_pos hl]; omega)) Sub.nil))))))), rfl⟩
          ·
            try replace h2f := of_decide_eq_false h2f
            have hl : ¬ 0 < (i.segs.getD j default).data.length := by omega
            refine AW.skip ?_
            exact ⟨(), trivial, (Sub.cons rfl rfl (Sub.cons rfl rfl (Sub.cons rfl rfl (Sub.cons rfl (congrArg (fun q => T.v (.int .i64 q)) (by unfold nextAt; rw [if_neg hl])) (Sub.cons rfl rfl (Sub.cons rfl rfl (Sub.cons rfl (congrArg (fun q => T.v (.int .i64 q)) (by unfold placeOf; rw [if_neg hl])) Sub.nil))))))), rfl⟩
        ·
          rintro _ _
          have hplace : 0 ≤ placeOf (i.segs.getD j default) at_ ∧ placeOf (i.segs.getD j default) at_ ≤ 18446744073709551615 := by unfold placeOf; split <;> omega
          refine AW.rseq ?_
          refine AWL.y rfl rfl (B rfl) (Yv.move rfl (E rfl rfl)) ?_
          refine AWL.y rfl rfl (B rfl) (Yv.fieldBox rfl fo_42_2 (E rfl rfl)) ?_
          refine AWL.y rfl rfl (B rfl) (Yv.loadBox rfl ag_3 (i := 2) rfl (E rfl rfl) rfl) ?_
          refine AWL.y rfl rfl (B rfl) (Yv.convN_u8 rfl Try.underlying3 kd_5 (E rfl rfl) (fun hg => by omega)) ?_
          refine AWL.buildSlice1 rfl rfl (B rfl) rfl el_27 rfl (evsC (E rfl rfl) (evsC (E rfl rfl) (evsC (E rfl rfl) (evsC (E rfl rfl) (evsC (E rfl rfl) (evsC (E rfl rfl) (evsC (E rfl rfl) (evsC (E rfl rfl) evs0)))))))) (Nat.le_of_ble_eq_true rfl) rfl rfl ?_
          refine AWL.appendRow (i := 1) rfl rfl (B rfl) rfl el_27 (B rfl) rfl (E rfl rfl) (SrcT.sl so_27 (B rfl) (E rfl rfl) (m := 8) rfl) (by unfold maxLen; omega) (by omega) (fun A74 c74 => ?_)
          refine AWL.y rfl rfl (B rfl) (Yv.assign rfl (E rfl rfl)) ?_
          refine AWL.nil ?_
          refine AW.rseq ?_
          refine AWL.y rfl rfl (B rfl) (Yv.move rfl (E rfl rfl)) ?_
          refine AWL.y rfl rfl (B rfl) (Yv.move rfl (E rfl rfl)) ?_
          refine AWL.y rfl rfl (B rfl) (Yv.convN_u64 rfl Try.underlying3 kd_22 (E rfl rfl) (fun hg => by omega)) ?_
          refine AWL.callT rfl rfl (B rfl) rfl ce_19 (E rfl rfl) (evsC (E rfl rfl) (evsC (E rfl rfl) evs0)) (Number19 _ 8 (by omega) (by omega) (by decide)) ?_
          rintro t78 S78 rfl
          refine AWL.appendRow (i := 1) rfl rfl (B rfl) rfl el_27 (B rfl) rfl (E rfl rfl) (SrcT.sl so_27 (B rfl) (E rfl rfl) len_leb) (by unfold maxLen; omega) (by omega) (fun A79 c79 => ?_)
          refine AWL.y rfl rfl (B rfl) (Yv.assign rfl (E rfl rfl)) ?_
          refine AWL.nil ?_
          refine AW.rseq ?_
          refine AWL.y rfl rfl (B rfl) (Yv.move rfl (E rfl rfl)) ?_
          refine AWL.y rfl rfl (B rfl) (Yv.fieldBox rfl fo_42_0 (E rfl rfl)) ?_
          refine AWL.y rfl rfl (B rfl) (Yv.loadBox rfl ag_22 (i := 2) rfl (E rfl rfl) rfl) ?_
          refine AWL.callT rfl rfl (B rfl) rfl ce_19 (E rfl rfl) (evsC (E rfl rfl) (evsC (E rfl rfl) evs0)) (Number19 _ 8 (by omega) (by omega) (by decide)) ?_
          rintro t83 S83 rfl
          refine AWL.appendRow (i := 1) rfl rfl (B rfl) rfl el_27 (B rfl) rfl (E rfl rfl) (SrcT.sl so_27 (B rfl) (E rfl rfl) len_leb) (by unfold maxLen; omega) (by omega) (fun A84 c84 => ?_)
          refine AWL.y rfl rfl (B rfl) (Yv.assign rfl (E rfl rfl)) ?_
          refine AWL.nil ?_
          refine AW.rseq ?_
          refine AWL.y rfl rfl (B rfl) (Yv.move rfl (E rfl rfl)) ?_
          refine AWL.y rfl rfl (B rfl) (Yv.fieldBox rfl fo_42_0 (E rfl rfl)) ?_
          refine AWL.y rfl rfl (B rfl) (Yv.loadBox rfl ag_22 (i := 2) rfl (E rfl rfl) rfl) ?_
          refine AWL.callT rfl rfl (B rfl) rfl ce_19 (E rfl rfl) (evsC (E rfl rfl) (evsC (E rfl rfl) evs0)) (Number19 _ 8 (by omega) (by omega) (by decide)) ?_
          rintro t88 S88 rfl
          refine AWL.appendRow (i := 1) rfl rfl (B rfl) rfl el_27 (B rfl) rfl (E rfl rfl) (SrcT.sl so_27 (B rfl) (E rfl rfl) len_leb) (by unfold maxLen; omega) (by omega) (fun A89 c89 => ?_)
          refine AWL.y rfl rfl (B rfl) (Yv.assign rfl (E rfl rfl)) ?_
          refine AWL.nil ?_
          refine AW.rseq ?_
          refine AWL.y rfl rfl (B rfl) (Yv.move rfl (E rfl rfl)) ?_
          refine AWL.y rfl rfl (B rfl) (Yv.fieldBox rfl fo_42_3 (E rfl rfl)) ?_
          refine AWL.y rfl rfl (B rfl) (Yv.loadBox rfl ag_27 (i := 2) rfl (E rfl rfl) rfl) ?_
          refine AWL.y rfl rfl (B rfl) (Yv.lenSl rfl so_27 (B rfl) (E rfl rfl) len_u8s) ?_
          refine AWL.y rfl rfl (B rfl) (Yv.convN_u64 rfl Try.underlying3 kd_22 (E rfl rfl) (fun hg => by omega)) ?_
          refine AWL.callT rfl rfl (B rfl) rfl ce_19 (E rfl rfl) (evsC (E rfl rfl) (evsC (E rfl rfl) evs0)) (Number19 _ 8 (by omega) (by omega) (by decide)) ?_
          rintro t95 S95 rfl
          refine AWL.appendRow (i := 1) rfl rfl (B rfl) rfl el_27 (B rfl) rfl (E rfl rfl) (SrcT.sl so_27 (B rfl) (E rfl rfl) len_leb) (by unfold maxLen; omega) (by omega) (fun A96 c96 => ?_)
          refine AWL.y rfl rfl (B rfl) (Yv.assign rfl (E rfl rfl)) ?_
          refine AWL.nil ?_
          refine AW.rseq ?_
          refine AWL.y rfl rfl (B rfl) (Yv.move rfl (E rfl rfl)) ?_
          refine AWL.y rfl rfl (B rfl) (Yv.fieldBox rfl fo_42_1 (E rfl rfl)) ?_
          refine AWL.y rfl rfl (B rfl) (Yv.loadBox rfl ag_22 (i := 2) rfl (E rfl rfl) rfl) ?_
          refine AWL.callT rfl rfl (B rfl) rfl ce_19 (E rfl rfl) (evsC (E rfl rfl) (evsC (E rfl rfl) evs0)) (Number19 _ 8 (by omega) (by omega) (by decide)) ?_
          rintro t100 S100 rfl
          refine AWL.appendRow (i := 1) rfl rfl (B rfl) rfl el_27 (B rfl) rfl (E rfl rfl) (SrcT.sl so_27 (B rfl) (E rfl rfl) len_leb) (by unfold maxLen; omega) (by omega) (fun A101 c101 => ?_)
          refine AWL.y rfl rfl (B rfl) (Yv.assign rfl (E rfl rfl)) ?_
          refine AWL.nil ?_
          refine AW.region ?_
          refine AWL.y rfl rfl (B rfl) (Yv.move rfl (E rfl rfl)) ?_
          refine AWL.callT rfl rfl (B rfl) rfl ce_19 (E rfl rfl) (evsC (E rfl rfl) (evsC (E rfl rfl) evs0)) (Number19 _ 8 (by omega) (by omega) (by decide)) ?_
          rintro t103 S103 rfl
          refine AWL.appendRow (i := 1) rfl rfl (B rfl) rfl el_27 (B rfl) rfl (E rfl rfl) (SrcT.sl so_27 (B rfl) (E rfl rfl) len_leb) (by unfold maxLen; omega) (by omega) (fun A104 c104 => ?_)
          refine AWL.y rfl rfl (B rfl) (Yv.assign rfl (E rfl rfl)) ?_
          refine AWL.nil ?_
          refine AW.dropAt 2 ?_
          refine AW.region ?_
          refine AWL.y rfl rfl (B rfl) (Yv.move rfl (E rfl rfl)) ?_
          refine AWL.y rfl rfl (B rfl) (Yv.addN_i64 rfl (E rfl rfl) (E rfl rfl) (fun hg => by omega)) ?_
          refine AWL.y rfl rfl (B rfl) (Yv.assign rfl (E rfl rfl)) ?_
          refine AWL.nil ?_
          have hcs := row_cells bs (i.segs.getD j default) (placeOf (i.segs.getD j default) at_) m1 m2
          have hnl : (bs ++ rowF (i.segs.getD j default) (placeOf (i.segs.getD j default) at_)).length = bs.length + 56 := by simp [rowF_len]
          refine ⟨j + 1, nextAt (i.segs.getD j default) at_, A104, c104, bs ++ rowF (i.segs.getD j default) (placeOf (i.segs.getD j default) at_), ⟨by omega, ?_, ?_, by omega, ?_⟩, by omega, ?_, ?_⟩
          · unfold nextAt; split <;> omega
          · unfold nextAt; split <;> omega
          · rw [← hrow, rowsF_drop (l := i.segs) (j := j) (by omega) at_, List.append_assoc]
          · exact (Sub.cons rfl rfl (Sub.cons rfl rfl (Sub.cons rfl (congrArg (fun q => T.v (.slice A104 q c104)) (by rw [hnl])) (Sub.cons rfl rfl (Sub.cons rfl (by simp) Sub.nil)))))
          · rw [hnl, ← hcs]; rfl
      ·
        try replace h1f := of_decide_eq_false h1f
        refine AW.exit ?_
        refine AW.seq ?_
        have hb2 : bs = hdrF i ++ rowsF i.segs (64 + i.segs.length * 56) := by
          rw [← hrow, List.drop_of_length_le (by omega)]; simp [rowsF]
        refine AW.rseq ?_
        refine AWL.y rfl rfl (B rfl) (Yv.assign rfl (E rfl rfl)) ?_
        refine AWL.nil ?_
        refine AW.block ?_
        refine AW.loop4 (fun (j : Nat) (A4 : Option Addr) (c4 : Nat) (out : List UInt8) => [(1, true, .v (.pointer (some ⟨b1, 0, none⟩))), (5, true, .v (.int .i64 (i.segs.length : Int))), (6, true, .v (.slice A4 out.length c4)), (11, true, .v (.int .i64 (j : Int)))]) (fun (j : Nat) (A4 : Option Addr) (c4 : Nat) (out : List UInt8) => [.box b1 25 [.v (.int .u64 i.entry), .sl 4 (i.segs.flatMap segCells)], .row A4 out.length c4 5 1 (List.map u8 out)]) (fun (j : Nat) (A4 : Option Addr) (c4 : Nat) (out : List UInt8) => j ≤ i.segs.length ∧ (out.length : Int) ≤ 8192 + j * 1099511631872 ∧ dataF (i.segs.drop j) out = writeF i) (fun (j : Nat) (A4 : Option Addr) (c4 : Nat) (out : List UInt8) => i.segs.length - j) 0 A c bs ?_ ?_ ?_ ?_
        · exact ⟨Nat.zero_le _, by omega, by rw [hb2]; rfl⟩
        · exact (Sub.cons rfl rfl (Sub.cons rfl rfl (Sub.cons rfl rfl (Sub.cons rfl rfl Sub.nil))))
        · rfl
        ·
          intro j A4 c4 out hinv
          obtain ⟨hj, hol, hdat⟩ := hinv
          refine AW.seq ?_
          refine AW.rseq ?_
          refine AWL.y rfl rfl (B rfl) (Yv.move rfl (E rfl rfl)) ?_
          refine AWL.y rfl rfl (B rfl) (Yv.move rfl (E rfl rfl)) ?_
          refine AWL.y rfl rfl (B rfl) (Yv.lss rfl (E rfl rfl) (E rfl rfl)) ?_
          refine AWL.nil ?_
          refine AW.cond rfl (fun h4t => ?_) (fun h4f => ?_)
          ·
            try replace h4t := of_decide_eq_true h4t
            have hsg := seg_ok hi (j := j) (by omega)
            obtain ⟨s1, s2, s3, s4, s5, s6, s7⟩ := hsg
            refine AW.skip ?_
            refine AW.seq ?_
            refine AW.block ?_
            refine AW.rseq ?_
            refine AWL.y rfl rfl (B rfl) (Yv.fieldBox rfl fo_25_1 (E rfl rfl)) ?_
            refine AWL.y rfl rfl (B rfl) (Yv.loadBox rfl ag_23 (i := 0) rfl (E rfl rfl) rfl) ?_
            refine AWL.y rfl rfl (B rfl) (Yv.move rfl (E rfl rfl)) ?_
            refine AWL.y rfl rfl (B rfl) (Yv.indexSl rfl ss_23 (B rfl) (E rfl rfl) (E rfl rfl) (fun hg => ⟨rfl, (by first | omega | (simp only [len_leb, len_u8s, len_segs]; omega))⟩)) ?_
            refine AWL.y rfl rfl (B rfl) (Yv.loadRpA rfl ag_42 (E rfl rfl) (fun hg => seg_get (by omega))) ?_
            refine AWL.allocOp rfl rfl (B rfl) rfl zc_42 (fun b12 => ?_)
            refine AWL.storeBox (i := 2) rfl rfl rfl ag_42 rfl (E rfl rfl) (E rfl rfl) rfl rfl (Nat.le_of_ble_eq_true rfl) ?_
            refine AWL.nil ?_
            refine AW.seq ?_
            refine AW.block ?_
            refine AW.loop3 (fun (k : Nat) (A5 : Option Addr) (c5 : Nat) => [(1, true, .v (.pointer (some ⟨b1, 0, none⟩))), (5, true, .v (.int .i64 (i.segs.length : Int))), (6, true, .v (.slice A5 (out.length + k) c5)), (12, true, .v (.pointer (some ⟨b12, 0, none⟩))), (11, true, .v (.int .i64 (j : Int)))]) (fun (k : Nat) (A5 : Option Addr) (c5 : Nat) => [.box b1 25 [.v (.int .u64 i.entry), .sl 4 (i.segs.flatMap segCells)], .row A5 (out.length + k) c5 5 1 (List.map u8 (out ++ List.replicate k 0)), .box b12 42 [.v (.int .u64 (i.segs.getD j default).at_), .v (.int .u64 (i.segs.getD j default).size), .v (.int .i64 (i.segs.getD j default).may), .sl 1 ((i.segs.getD j default).data.map u8)]]) (fun (k : Nat) (A5 : Option Addr) (c5 : Nat) => k ≤ (if 0 < (i.segs.getD j default).data.length then pad out.length else 0)) (fun (k : Nat) (A5 : Option Addr) (c5 : Nat) => pad out.length - k) 0 A4 c4 ?_ ?_ ?_ ?_
            · exact Nat.zero_le _
            · exact (Sub.cons rfl rfl (Sub.cons rfl rfl (Sub.cons rfl rfl (Sub.cons rfl rfl (Sub.cons rfl rfl Sub.nil)))))
            · simp only [List.replicate_zero, List.append_nil]; rfl
            ·
              intro k A5 c5 hinv
              have hp : pad out.length < 4096 := by unfold pad; omega
              have hk4 : k ≤ pad out.length := by split at hinv <;> omega
              refine AW.seq ?_
              refine AW.rseq ?_
              refine AWL.y rfl rfl (B rfl) (Yv.fieldBox rfl fo_42_3 (E rfl rfl)) ?_
              refine AWL.y rfl rfl (B rfl) (Yv.loadBox rfl ag_27 (i := 2) rfl (E rfl rfl) rfl) ?_
              refine AWL.y rfl rfl (B rfl) (Yv.lenSl rfl so_27 (B rfl) (E rfl rfl) len_u8s) ?_
              refine AWL.y rfl rfl (B rfl) (Yv.gtr rfl (E rfl rfl) (E rfl rfl)) ?_
              refine AWL.y rfl rfl (B rfl) (Yv.move rfl (E rfl rfl)) ?_
              refine AWL.ygT rfl rfl rfl rfl (B rfl) (Yv.move rfl (E rfl rfl)) ?_
              refine AWL.ygT rfl rfl rfl rfl (B rfl) (Yv.lenV rfl so_27 (Eg rfl rfl id)) ?_
              refine AWL.ygT rfl rfl rfl rfl (B rfl) (Yv.remN rfl (Eg rfl rfl id) (E rfl rfl) (fun hg => by first | omega | (simp only [Bool.and_eq_true, Bool.or_eq_false_iff, Bool.not_eq_true', Bool.not_eq_false', decide_eq_true_eq, decide_eq_false_iff_not] at hg; omega))) ?_
              refine AWL.ygT rfl rfl rfl rfl (B rfl) (Yv.neq rfl (Eg rfl rfl id) (E rfl rfl)) ?_
              refine AWL.y rfl rfl (B rfl) (Yv.pickAnd rfl (E rfl rfl) (Eg rfl rfl id)) ?_
              refine AWL.nil ?_
              refine AW.cond rfl (fun h5t => ?_) (fun h5f => ?_)
              ·
                try replace h5t := of_decide_eq_true h5t
                simp only [Bool.or_eq_true, Bool.and_eq_true, Bool.or_eq_false_iff, Bool.and_eq_false_iff, Bool.not_eq_true', Bool.not_eq_false', decide_eq_true_eq, decide_eq_false_iff_not, Decidable.not_not] at h5t
                refine AW.skip ?_
                refine AW.block ?_
                refine AW.region ?_
                refine AWL.y rfl rfl (B rfl) (Yv.move rfl (E rfl rfl)) ?_
                refine AWL.buildSlice1 rfl rfl (B rfl) rfl el_27 rfl (evsC (E rfl rfl) evs0) (Nat.le_of_ble_eq_true rfl) rfl rfl ?_
                refine AWL.appendRow (i := 1) rfl rfl (B rfl) rfl el_27 (B rfl) rfl (E rfl rfl) (SrcT.sl so_27 (B rfl) (E rfl rfl) (m := 1) rfl) (by unfold maxLen; omega) (by omega) (fun A127 c127 => ?_)
                refine AWL.y rfl rfl (B rfl) (Yv.assign rfl (E rfl rfl)) ?_
                refine AWL.nil ?_
                refine ⟨k + 1, A127, c127, by unfold pad at *; split at hinv <;> split <;> omega, by unfold pad at *; split at hinv <;> omega, ?_, ?_⟩
                · exact (Sub.cons rfl rfl (Sub.cons rfl rfl (Sub.cons rfl rfl (Sub.cons rfl rfl (Sub.cons rfl rfl Sub.nil)))))
                · simp only [List.replicate_succ', ← List.append_assoc, List.map_append]; rfl
              ·
                try replace h5f := of_decide_eq_false h5f
                simp only [Bool.or_eq_true, Bool.and_eq_true, Bool.or_eq_false_iff, Bool.and_eq_false_iff, Bool.not_eq_true', Bool.not_eq_false', decide_eq_true_eq, decide_eq_false_iff_not, Decidable.not_not] at h5f
                refine AW.exit ?_
                refine AW.region ?_
                refine AWL.y rfl rfl (B rfl) (Yv.move rfl (E rfl rfl)) ?_
                refine AWL.y rfl rfl (B rfl) (Yv.fieldBox rfl fo_42_3 (E rfl rfl)) ?_
                refine AWL.y rfl rfl (B rfl) (Yv.loadBox rfl ag_27 (i := 2) rfl (E rfl rfl) rfl) ?_
                refine AWL.appendRow (i := 1) rfl rfl (B rfl) rfl el_27 (B rfl) rfl (E rfl rfl) (SrcT.sl so_27 (B rfl) (E rfl rfl) len_u8s) (by unfold maxLen; omega) (by omega) (fun A131 c131 => ?_)
                refine AWL.y rfl rfl (B rfl) (Yv.assign rfl (E rfl rfl)) ?_
                refine AWL.nil ?_
                refine AW.dropAt 2 ?_
                refine AW.region ?_
                refine AWL.y rfl rfl (B rfl) (Yv.move rfl (E rfl rfl)) ?_
                refine AWL.y rfl rfl (B rfl) (Yv.addN_i64 rfl (E rfl rfl) (E rfl rfl) (fun hg => by omega)) ?_
                refine AWL.y rfl rfl (B rfl) (Yv.assign rfl (E rfl rfl)) ?_
                refine AWL.nil ?_
                have hp : pad out.length < 4096 := by unfold pad; omega
                have hnl : (stepOut (i.segs.getD j default) out).length = out.length + k + (i.segs.getD j default).data.length := by
                  unfold stepOut
                  split
                  · have hk : k = pad out.length := by unfold pad at *; split at hinv <;> omega
                    subst hk
                    simp only [List.length_append, List.length_replicate]
                  · have hk : k = 0 := by split at hinv <;> omega
                    omega
                refine ⟨j + 1, A131, c131, stepOut (i.segs.getD j default) out, ⟨by omega, by split at hinv <;> omega, ?_⟩, by omega, ?_, ?_⟩
                · rw [← hdat, dataF_drop (l := i.segs) (j := j) (by omega) out]; rfl
                · exact (Sub.cons rfl rfl (Sub.cons rfl rfl (Sub.cons rfl (congrArg (fun q => T.v (.slice A131 q c131)) (by rw [hnl])) (Sub.cons rfl (by simp) Sub.nil))))
                · have hcs : List.map u8 (out ++ List.replicate k 0) ++ List.map u8 (i.segs.getD j default).data = List.map u8 (stepOut (i.segs.getD j default) out) := by
                    unfold stepOut
                    split
                    · have hk : k = pad out.length := by unfold pad at *; split at hinv <;> omega
                      subst hk
                      simp only [List.map_append]
                    · have hk : k = 0 := by split at hinv <;> omega
                      subst hk
                      rename_i hd
                      rw [List.eq_nil_of_length_eq_zero (l := (i.segs.getD j default).data) (by omega)]
                      simp
                  rw [hnl, ← hcs]; rfl
          ·
            try replace h4f := of_decide_eq_false h4f
            refine AW.exit ?_
            refine AW.dropAt 0 ?_
            refine AW.rseq ?_
            refine AWL.y rfl rfl (B rfl) (Yv.move rfl (E rfl rfl)) ?_
            refine AWL.y rfl rfl (B rfl) (Yv.assign rfl (E rfl rfl)) ?_
            refine AWL.y rfl rfl (B rfl) (Yv.assign rfl (E rfl rfl)) ?_
            refine AWL.nil ?_
            refine AW.ret (retI (.tmp rfl (.tmp rfl .nil)) ?_)
            have e : WriteF i = out := by
              unfold WriteF
              rw [hc, if_pos rfl, ← hdat, List.drop_of_length_le (by omega)]; rfl
            rw [e, hc]
            exact ⟨A4, c4, rfl, rfl⟩

end Go.Proofs.Ytckkcncgglfbbaa
