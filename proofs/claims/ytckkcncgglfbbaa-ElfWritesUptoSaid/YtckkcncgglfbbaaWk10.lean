/-
  CONTRACTS of the laws: lent, kept; walked by program.
-/
import Derived.Test.YtckkcncgglfbbaaWk9
import Derived.Test.YtckkcncgglfbbaaLent
namespace Go.Proofs.Ytckkcncgglfbbaa
open Go Go.RowKit
set_option linter.unusedVariables false

set_option maxHeartbeats 400000 in
theorem lent8 (i : Img) (hi : ImgOk i) :
    ACalls Try.prog 8 [imgT i] [] (fun t S => t = lentT i) := by
  obtain ⟨hi1, hi2, hi3, hi4⟩ := hi
  have hi := (⟨hi1, hi2, hi3, hi4⟩ : ImgOk i)
  refine ACalls.intro Try.func8 rfl Try.ntmps8 (Nat.le_of_ble_eq_true rfl) rfl fun X w0 => ?_
  refine AW.rseq ?_
  refine AWL.boxOp rfl rfl (B rfl) rfl (E rfl rfl) rfl (fun b1 => ?_)
  refine AWL.allocOp rfl rfl (B rfl) rfl zc_25 (fun b2 => ?_)
  refine AWL.nil ?_
  refine AW.rseq ?_
  refine AWL.y rfl rfl (B rfl) (Yv.fieldBox rfl fo_25_0 (E rfl rfl)) ?_
  refine AWL.y rfl rfl (B rfl) (Yv.loadBox rfl ag_22 (i := 0) rfl (E rfl rfl) rfl) ?_
  refine AWL.y rfl rfl (B rfl) (Yv.buildS rfl sh_25 (evpC (E rfl rfl) evp0) (fun _ => rfl)) ?_
  refine AWL.allocOp rfl rfl (B rfl) rfl zc_25 (fun b3 => ?_)
  refine AWL.storeBox (i := 2) rfl rfl rfl ag_25 rfl (E rfl rfl) (E rfl rfl) rfl rfl (Nat.le_of_ble_eq_true rfl) ?_
  refine AWL.nil ?_
  refine AW.rowNil 42 4 ?_
  refine AW.seq ?_
  refine AW.rseq ?_
  refine AWL.y rfl rfl (B rfl) (Yv.assign rfl (E rfl rfl)) ?_
  refine AWL.nil ?_
  refine AW.block ?_
  refine AW.loop3 (fun (j : Nat) (A : Option Addr) (c : Nat) => [(1, true, .v (.pointer (some ⟨b1, 0, none⟩))), (2, true, .v (.pointer (some ⟨b2, 0, none⟩))), (3, true, .v (.pointer (some ⟨b3, 0, none⟩))), (4, true, .v (.int .i64 (j : Int)))]) (fun (j : Nat) (A : Option Addr) (c : Nat) => [.box b1 25 [.v (.int .u64 i.entry), .sl 4 (i.segs.flatMap segCells)], .box b2 25 [.v (.int .u64 0), .v (.slice none 0 0)], .box b3 25 [.v (.int .u64 i.entry), .v (.slice A j c)], .row A j c 42 4 ((i.segs.take j).flatMap lentCells)]) (fun (j : Nat) (A : Option Addr) (c : Nat) => j ≤ i.segs.length) (fun (j : Nat) (A : Option Addr) (c : Nat) => i.segs.length - j) 0 none 0 ?_ ?_ ?_ ?_
  · exact Nat.zero_le _
  · exact (Sub.cons rfl rfl (Sub.cons rfl rfl (Sub.cons rfl rfl (Sub.cons rfl rfl Sub.nil))))
  · rfl
  ·
    intro j A c hinv
    refine AW.seq ?_
    refine AW.rseq ?_
    refine AWL.y rfl rfl (B rfl) (Yv.move rfl (E rfl rfl)) ?_
    refine AWL.y rfl rfl (B rfl) (Yv.fieldBox rfl fo_25_1 (E rfl rfl)) ?_
    refine AWL.y rfl rfl (B rfl) (Yv.loadBox rfl ag_23 (i := 0) rfl (E rfl rfl) rfl) ?_
    refine AWL.y rfl rfl (B rfl) (Yv.lenSl rfl so_23 (B rfl) (E rfl rfl) len_segs) ?_
    refine AWL.y rfl rfl (B rfl) (Yv.lss rfl (E rfl rfl) (E rfl rfl)) ?_
    refine AWL.nil ?_
    refine AW.cond rfl (fun h0t => ?_) (fun h0f => ?_)
    ·
      try replace h0t := of_decide_eq_true h0t
      have hsg := seg_ok hi (j := j) (by omega)
      obtain ⟨s1, s2, s3, s4, s5, s6, s7⟩ := hsg
      refine AW.skip ?_
      refine AW.seq ?_
      refine AW.block ?_
      refine AW.rseq ?_
      refine AWL.y rfl rfl (B rfl) (Yv.fieldBox rfl fo_25_1 (E rfl rfl)) ?_
      refine AWL.y rfl rfl (B rfl) (Yv.loadBox rfl ag_23 (i := 0) rfl (E rfl rfl) rfl) ?_
      refine AWL.y rfl rfl (B rfl) (Yv.move rfl (E rfl rfl)) ?_
      refine AWL.y rfl rfl (B rfl) (Yv.indexSl rfl ss_23 (B rfl) (E rfl rfl) (E rfl rfl) (fun hg => ⟨rfl, (by first | omega | (simp only [len_u8s, len_segs]; omega))⟩)) ?_
      refine AWL.y rfl rfl (B rfl) (Yv.loadRpA rfl ag_42 (E rfl rfl) (fun hg => seg_get (by omega))) ?_
      refine AWL.allocOp rfl rfl (B rfl) rfl zc_42 (fun b5 => ?_)
      refine AWL.storeBox (i := 4) rfl rfl rfl ag_42 rfl (E rfl rfl) (E rfl rfl) rfl rfl (Nat.le_of_ble_eq_true rfl) ?_
      refine AWL.nil ?_
      refine AW.rseq ?_
      refine AWL.y rfl rfl (B rfl) (Yv.fieldBox rfl fo_42_3 (E rfl rfl)) ?_
      refine AWL.y rfl rfl (B rfl) (Yv.loadBox rfl ag_27 (i := 4) rfl (E rfl rfl) rfl) ?_
      refine AWL.y rfl rfl (B rfl) (Yv.lenSl rfl so_27 (B rfl) (E rfl rfl) len_u8s) ?_
      refine AWL.y rfl rfl (B rfl) (Yv.addN_i64 rfl (E rfl rfl) (E rfl rfl) (fun hg => by omega)) ?_
      refine AWL.makeRow (n := (i.segs.getD j default).data.length + 2) (c := (i.segs.getD j default).data.length + 2) rfl rfl (B rfl) rfl el_27 (E rfl rfl) (E rfl rfl) (by omega) (by omega) (by unfold maxLen; omega) (fun A26 => ?_)
      refine AWL.y rfl rfl (B rfl) (Yv.assign rfl (E rfl rfl)) ?_
      refine AWL.nil ?_
      refine AW.rseq ?_
      refine AWL.y rfl rfl (B rfl) (Yv.move rfl (E rfl rfl)) ?_
      refine AWL.y rfl rfl (B rfl) (Yv.fieldBox rfl fo_42_3 (E rfl rfl)) ?_
      refine AWL.y rfl rfl (B rfl) (Yv.loadBox rfl ag_27 (i := 4) rfl (E rfl rfl) rfl) ?_
      refine AWL.copyRow (i := 5) rfl rfl (B rfl) rfl el_27 rfl (E rfl rfl) (SrcT.sl so_27 (B rfl) (E rfl rfl) len_u8s) (by omega) (by omega) ?_
      refine AWL.nil ?_
      refine AW.rseq ?_
      refine AWL.y rfl rfl (B rfl) (Yv.move rfl (E rfl rfl)) ?_
      refine AWL.y rfl rfl (B rfl) (Yv.fieldBox rfl fo_42_3 (E rfl rfl)) ?_
      refine AWL.y rfl rfl (B rfl) (Yv.loadBox rfl ag_27 (i := 4) rfl (E rfl rfl) rfl) ?_
      refine AWL.y rfl rfl (B rfl) (Yv.lenSl rfl so_27 (B rfl) (E rfl rfl) len_u8s) ?_
      refine AWL.y rfl rfl (B rfl) (Yv.indexRow rfl ss_27 (i := 5) rfl (E rfl rfl) (E rfl rfl) (fun hg => ⟨rfl, by omega⟩)) ?_
      refine AWL.storeEp1 (i := 5) rfl rfl rfl ag_5 rfl (E rfl rfl) (E rfl rfl) rfl rfl (by first | (simp; done) | (simp; omega)) ?_
      refine AWL.nil ?_
      refine AW.rseq ?_
      refine AWL.y rfl rfl (B rfl) (Yv.move rfl (E rfl rfl)) ?_
      refine AWL.y rfl rfl (B rfl) (Yv.fieldBox rfl fo_42_3 (E rfl rfl)) ?_
      refine AWL.y rfl rfl (B rfl) (Yv.loadBox rfl ag_27 (i := 4) rfl (E rfl rfl) rfl) ?_
      refine AWL.y rfl rfl (B rfl) (Yv.lenSl rfl so_27 (B rfl) (E rfl rfl) len_u8s) ?_
      refine AWL.y rfl rfl (B rfl) (Yv.sliceRow0 (m := (i.segs.getD j default).data.length) (i := 5) rfl ss_27 rfl (E rfl rfl) (Bound.some_ (E rfl rfl) (fun _ => rfl)) (fun hg => by omega)) ?_
      refine AWL.freezeSp 5 40 rfl (B rfl) (by omega) (by omega) rfl ?_
      refine AWL.y rfl rfl (B rfl) (Yv.fieldBox rfl fo_42_3 (E rfl rfl)) ?_
      refine AWL.storeBox (i := 4) rfl rfl rfl ag_27 rfl (E rfl rfl) (E rfl rfl) rfl rfl (Nat.le_of_ble_eq_true rfl) ?_
      refine AWL.nil ?_
      refine AW.region ?_
      refine AWL.y rfl rfl (B rfl) (Yv.fieldBox rfl fo_25_1 (E rfl rfl)) ?_
      refine AWL.y rfl rfl (B rfl) (Yv.loadBox rfl ag_23 (i := 2) rfl (E rfl rfl) rfl) ?_
      refine AWL.y rfl rfl (B rfl) (Yv.loadBoxA rfl ag_42 (i := 4) rfl (E rfl rfl) rfl rfl) ?_
      refine AWL.buildSliceE rfl rfl (B rfl) rfl el_23 (B rfl) rfl (evsC (E rfl rfl) evs0) (Nat.le_of_ble_eq_true rfl) rfl rfl ?_
      refine AWL.appendRow (i := 3) rfl rfl (B rfl) rfl el_23 (B rfl) rfl (E rfl rfl) (SrcT.sl so_23 (B rfl) (E rfl rfl) (m := 1) rfl) (by unfold maxLen; omega) (by omega) (fun A46 c46 => ?_)
      refine AWL.y rfl rfl (B rfl) (Yv.fieldBox rfl fo_25_1 (E rfl rfl)) ?_
      refine AWL.storeBox (i := 2) rfl rfl rfl ag_23 rfl (E rfl rfl) (E rfl rfl) rfl rfl (Nat.le_of_ble_eq_true rfl) ?_
      refine AWL.nil ?_
      refine AW.dropAt 4 ?_
      refine AW.region ?_
      refine AWL.y rfl rfl (B rfl) (Yv.move rfl (E rfl rfl)) ?_
      refine AWL.y rfl rfl (B rfl) (Yv.addN_i64 rfl (E rfl rfl) (E rfl rfl) (fun hg => by omega)) ?_
      refine AWL.y rfl rfl (B rfl) (Yv.assign rfl (E rfl rfl)) ?_
      refine AWL.nil ?_
      have hmk := mark_cells (i.segs.getD j default).data
      refine ⟨j + 1, A46, c46, by omega, by omega, ?_, ?_⟩
      · exact (Sub.cons rfl rfl (Sub.cons rfl rfl (Sub.cons rfl rfl (Sub.cons rfl (by simp) Sub.nil))))
      · rw [take_lent (by omega), lentCells, ← hmk]; rfl
    ·
      try replace h0f := of_decide_eq_false h0f
      refine AW.exit ?_
      refine AW.freezeCell 3 2 1 rfl (B rfl) rfl rfl ?_
      refine AW.rseq ?_
      refine AWL.y rfl rfl (B rfl) (Yv.loadBoxA rfl ag_25 (i := 2) rfl (E rfl rfl) rfl rfl) ?_
      refine AWL.storeBox (i := 1) rfl rfl rfl ag_25 rfl (E rfl rfl) (E rfl rfl) rfl rfl (Nat.le_of_ble_eq_true rfl) ?_
      refine AWL.nil ?_
      refine AW.ret (retI (.cellA (i := 1) rfl ag_25 rfl rfl rfl .nil) ?_)
      have hj : j = i.segs.length := by omega
      subst hj
      rw [List.take_of_length_le (Nat.le_refl _)]; rfl

set_option maxHeartbeats 400000 in
theorem kept13 (i : Img) (hi : ImgOk i) :
    ACalls Try.prog 13 [lentT i, imgT i] [] (fun t S => t = .v (.bool true)) := by
  obtain ⟨hi1, hi2, hi3, hi4⟩ := hi
  have hi := (⟨hi1, hi2, hi3, hi4⟩ : ImgOk i)
  refine ACalls.intro Try.func13 rfl Try.ntmps13 (Nat.le_of_ble_eq_true rfl) rfl fun X w0 => ?_
  refine AW.rseq ?_
  refine AWL.boxOp rfl rfl (B rfl) rfl (E rfl rfl) rfl (fun b2 => ?_)
  refine AWL.boxOp rfl rfl (B rfl) rfl (E rfl rfl) rfl (fun b3 => ?_)
  refine AWL.y rfl rfl (B rfl) (Yv.assign rfl (E rfl rfl)) ?_
  refine AWL.nil ?_
  refine AW.seq ?_
  refine AW.rseq ?_
  refine AWL.y rfl rfl (B rfl) (Yv.assign rfl (E rfl rfl)) ?_
  refine AWL.nil ?_
  refine AW.block ?_
  refine AW.loop (fun (j : Nat) => [(2, true, .v (.pointer (some ⟨b2, 0, none⟩))), (3, true, .v (.pointer (some ⟨b3, 0, none⟩))), (5, true, .v (.int .i64 (j : Int)))]) (fun (j : Nat) => [.box b2 25 [.v (.int .u64 i.entry), .sl 4 (i.segs.flatMap lentCells)], .box b3 25 [.v (.int .u64 i.entry), .sl 4 (i.segs.flatMap segCells)]]) (fun (j : Nat) => j ≤ i.segs.length) (fun (j : Nat) => i.segs.length - j) 0 ?_ ?_ ?_ ?_
  · exact Nat.zero_le _
  · exact (Sub.cons rfl rfl (Sub.cons rfl rfl (Sub.cons rfl rfl Sub.nil)))
  · rfl
  ·
    intro j hinv
    refine AW.seq ?_
    refine AW.rseq ?_
    refine AWL.y rfl rfl (B rfl) (Yv.move rfl (E rfl rfl)) ?_
    refine AWL.y rfl rfl (B rfl) (Yv.fieldBox rfl fo_25_1 (E rfl rfl)) ?_
    refine AWL.y rfl rfl (B rfl) (Yv.loadBox rfl ag_23 (i := 0) rfl (E rfl rfl) rfl) ?_
    refine AWL.y rfl rfl (B rfl) (Yv.lenSl rfl so_23 (B rfl) (E rfl rfl) len_lent) ?_
    refine AWL.y rfl rfl (B rfl) (Yv.lss rfl (E rfl rfl) (E rfl rfl)) ?_
    refine AWL.nil ?_
    refine AW.cond rfl (fun h0t => ?_) (fun h0f => ?_)
    ·
      try replace h0t := of_decide_eq_true h0t
      have hsg := seg_ok hi (j := j) (by omega)
      obtain ⟨s1, s2, s3, s4, s5, s6, s7⟩ := hsg
      refine AW.skip ?_
      refine AW.seq ?_
      refine AW.block ?_
      refine AW.rseq ?_
      refine AWL.y rfl rfl (B rfl) (Yv.fieldBox rfl fo_25_1 (E rfl rfl)) ?_
      refine AWL.y rfl rfl (B rfl) (Yv.loadBox rfl ag_23 (i := 0) rfl (E rfl rfl) rfl) ?_
      refine AWL.y rfl rfl (B rfl) (Yv.move rfl (E rfl rfl)) ?_
      refine AWL.y rfl rfl (B rfl) (Yv.indexSl rfl ss_23 (B rfl) (E rfl rfl) (E rfl rfl) (fun hg => ⟨rfl, (by first | omega | (simp only [len_lent, len_u8s, len_segs]; omega))⟩)) ?_
      refine AWL.y rfl rfl (B rfl) (Yv.fieldRp rfl fo_42_3 (E rfl rfl)) ?_
      refine AWL.y rfl rfl (B rfl) (Yv.loadRp rfl ag_27 (E rfl rfl) (fun hg => lent_at (by omega))) ?_
      refine AWL.y rfl rfl (B rfl) (Yv.assign rfl (E rfl rfl)) ?_
      refine AWL.nil ?_
      refine AW.rseq ?_
      refine AWL.y rfl rfl (B rfl) (Yv.move rfl (E rfl rfl)) ?_
      refine AWL.y rfl rfl (B rfl) (Yv.move rfl (E rfl rfl)) ?_
      refine AWL.y rfl rfl (B rfl) (Yv.lenSp rfl so_27 (E rfl rfl)) ?_
      refine AWL.y rfl rfl (B rfl) (Yv.addN_i64 rfl (E rfl rfl) (E rfl rfl) (fun hg => by omega)) ?_
      refine AWL.y rfl rfl (B rfl) (Yv.sliceSp (hi := (i.segs.getD j default).data.length + 1) rfl ss_27 (B rfl) (E rfl rfl) (Bound.some_ (E rfl rfl) (fun _ => rfl)) (fun hg => by rw [marked_len]; omega)) ?_
      refine AWL.y rfl rfl (B rfl) (Yv.move rfl (E rfl rfl)) ?_
      refine AWL.y rfl rfl (B rfl) (Yv.lenSp rfl so_27 (E rfl rfl)) ?_
      refine AWL.y rfl rfl (B rfl) (Yv.indexSl (j := (i.segs.getD j default).data.length) rfl ss_27 (B rfl) (E rfl rfl) (E rfl rfl) (fun hg => ⟨rfl, by rw [List.length_take, marked_len]; omega⟩)) ?_
      refine AWL.y rfl rfl (B rfl) (Yv.loadRp rfl ag_5 (E rfl rfl) (fun hg => mark_at _)) ?_
      refine AWL.y rfl rfl (B rfl) (Yv.neq rfl (E rfl rfl) (E rfl rfl)) ?_
      refine AWL.nil ?_
      refine AW.cond rfl (fun h1t => ?_) (fun h1f => ?_)
      ·
        try replace h1t := of_decide_eq_true h1t
        simp at h1t
      ·
        try replace h1f := of_decide_eq_false h1f
        refine AW.skip ?_
        refine AW.region ?_
        refine AWL.y rfl rfl (B rfl) (Yv.move rfl (E rfl rfl)) ?_
        refine AWL.y rfl rfl (B rfl) (Yv.addN_i64 rfl (E rfl rfl) (E rfl rfl) (fun hg => by omega)) ?_
        refine AWL.y rfl rfl (B rfl) (Yv.assign rfl (E rfl rfl)) ?_
        refine AWL.nil ?_
        refine ⟨j + 1, by omega, by omega, (Sub.cons rfl rfl (Sub.cons rfl rfl (Sub.cons rfl (by simp) Sub.nil))), rfl⟩
    ·
      try replace h0f := of_decide_eq_false h0f
      refine AW.exit ?_
      refine AW.rseq ?_
      refine AWL.y rfl rfl (B rfl) (Yv.loadBoxA rfl ag_25 (i := 0) rfl (E rfl rfl) rfl rfl) ?_
      refine AWL.retype (k := 30) rfl (lent_img i) ?_
      refine AWL.y rfl rfl (B rfl) (Yv.loadBoxA rfl ag_25 (i := 1) rfl (E rfl rfl) rfl rfl) ?_
      refine AWL.callP rfl rfl (B rfl) rfl ce_17 (E rfl rfl) (evsC (E rfl rfl) (evsC (E rfl rfl) evs0)) (same17 i i hi hi) (fun t S h => h) ?_
      refine AWL.y rfl rfl (B rfl) (Yv.assign rfl (E rfl rfl)) ?_
      refine AWL.nil ?_
      refine AW.ret (retI (.tmp rfl .nil) ?_)
      rw [decide_eq_true (show i = i from rfl)]; rfl

end Go.Proofs.Ytckkcncgglfbbaa
