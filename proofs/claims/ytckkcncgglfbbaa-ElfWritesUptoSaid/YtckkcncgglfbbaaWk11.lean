/-
  CONTRACT of the law Writes; walked by program.
-/
import Derived.Test.YtckkcncgglfbbaaWk10
namespace Go.Proofs.Ytckkcncgglfbbaa
open Go Go.RowKit
set_option linter.unusedVariables false

set_option maxHeartbeats 400000 in
theorem ElfWrites3 (i : Img) (hi : ImgOk i) (hw : (WriteF i).length ≤ 1099511627) :
    ACalls Try.prog 3 [imgT i] [] (fun t S => t = .v (.bool true)) := by
  obtain ⟨hi1, hi2, hi3, hi4⟩ := hi
  have hi := (⟨hi1, hi2, hi3, hi4⟩ : ImgOk i)
  refine ACalls.intro Try.func3 rfl Try.ntmps3 (Nat.le_of_ble_eq_true rfl) rfl fun X w0 => ?_
  refine AW.rseq ?_
  refine AWL.boxOp rfl rfl (B rfl) rfl (E rfl rfl) rfl (fun b1 => ?_)
  refine AWL.y rfl rfl (B rfl) (Yv.assign rfl (E rfl rfl)) ?_
  refine AWL.nil ?_
  refine AW.rseq ?_
  refine AWL.y rfl rfl (B rfl) (Yv.loadBoxA rfl ag_25 (i := 0) rfl (E rfl rfl) rfl rfl) ?_
  refine AWL.callT rfl rfl (B rfl) rfl ce_8 (E rfl rfl) (evsC (E rfl rfl) evs0) (lent8 i hi) ?_
  rintro t12 S12 rfl
  refine AWL.allocOp rfl rfl (B rfl) rfl zc_25 (fun b3 => ?_)
  refine AWL.storeBox (i := 1) rfl rfl rfl ag_25 rfl (E rfl rfl) (E rfl rfl) rfl rfl (Nat.le_of_ble_eq_true rfl) ?_
  refine AWL.nil ?_
  refine AW.rseq ?_
  refine AWL.y rfl rfl (B rfl) (Yv.loadBoxA rfl ag_25 (i := 0) rfl (E rfl rfl) rfl rfl) ?_
  refine AWL.call rfl rfl (B rfl) rfl ce_9 (E rfl rfl) (evsC (E rfl rfl) evs0) (S1 := []) (S2 := _) rfl (RefWrite9 i hi) ?_
  rintro t15 S15 ⟨A15, c15, rfl, rfl⟩
  refine AWL.y rfl rfl (B rfl) (Yv.move rfl (E rfl rfl)) ?_
  refine AWL.y rfl rfl (B rfl) (Yv.extract rfl (E rfl rfl) rfl) ?_
  refine AWL.y rfl rfl (B rfl) (Yv.extract rfl (E rfl rfl) rfl) ?_
  refine AWL.y rfl rfl (B rfl) (Yv.assign rfl (E rfl rfl)) ?_
  refine AWL.y rfl rfl (B rfl) (Yv.assign rfl (E rfl rfl)) ?_
  refine AWL.nil ?_
  refine AW.freeze 0 4 rfl (B rfl) rfl ?_
  refine AW.rseq ?_
  refine AWL.y rfl rfl (B rfl) (Yv.loadBoxA rfl ag_25 (i := 1) rfl (E rfl rfl) rfl rfl) ?_
  refine AWL.retype (k := 19) rfl (lent_img i) ?_
  refine AWL.call rfl rfl (B rfl) rfl ce_10 (E rfl rfl) (evsC (E rfl rfl) evs0) (S1 := []) (S2 := _) rfl (Write10 i hi) ?_
  rintro t20 S20 ⟨A20, c20, rfl, rfl⟩
  refine AWL.y rfl rfl (B rfl) (Yv.move rfl (E rfl rfl)) ?_
  refine AWL.y rfl rfl (B rfl) (Yv.extract rfl (E rfl rfl) rfl) ?_
  refine AWL.y rfl rfl (B rfl) (Yv.extract rfl (E rfl rfl) rfl) ?_
  refine AWL.y rfl rfl (B rfl) (Yv.assign rfl (E rfl rfl)) ?_
  refine AWL.y rfl rfl (B rfl) (Yv.assign rfl (E rfl rfl)) ?_
  refine AWL.nil ?_
  refine AW.rseq ?_
  refine AWL.y rfl rfl (B rfl) (Yv.loadBoxA rfl ag_25 (i := 2) rfl (E rfl rfl) rfl rfl) ?_
  refine AWL.retype (k := 24) rfl (lent_img i) ?_
  refine AWL.call rfl rfl (B rfl) rfl ce_10 (E rfl rfl) (evsC (E rfl rfl) evs0) (S1 := []) (S2 := _) rfl (Write10 i hi) ?_
  rintro t25 S25 ⟨A25, c25, rfl, rfl⟩
  refine AWL.y rfl rfl (B rfl) (Yv.move rfl (E rfl rfl)) ?_
  refine AWL.y rfl rfl (B rfl) (Yv.extract rfl (E rfl rfl) rfl) ?_
  refine AWL.y rfl rfl (B rfl) (Yv.extract rfl (E rfl rfl) rfl) ?_
  refine AWL.y rfl rfl (B rfl) (Yv.assign rfl (E rfl rfl)) ?_
  refine AWL.y rfl rfl (B rfl) (Yv.assign rfl (E rfl rfl)) ?_
  refine AWL.nil ?_
  refine AW.freeze 0 8 rfl (B rfl) rfl ?_
  refine AW.seq ?_
  refine AW.rseqQ rfl (by kernel_rfl) ?_
  refine AWQ.y rfl rfl (B rfl) (Yv.move rfl (E rfl rfl)) ?_
  refine AWQ.y rfl rfl (B rfl) (Yv.move rfl (E rfl rfl)) ?_
  refine AWQ.y rfl rfl (B rfl) (Yv.neq rfl (E rfl rfl) (E rfl rfl)) ?_
  refine AWQ.y rfl rfl (B rfl) (Yv.move rfl (E rfl rfl)) ?_
  refine AWQ.ygF rfl rfl rfl rfl (B rfl) (Yv.move rfl (E rfl rfl)) ?_
  refine AWQ.ygF rfl rfl rfl rfl (B rfl) (Yv.bytesStrRow (i := 0) rfl by_27 st_9 rfl (Eg rfl rfl id)) ?_
  refine AWQ.ygF rfl rfl rfl rfl (B rfl) (Yv.move rfl (E rfl rfl)) ?_
  refine AWQ.ygF rfl rfl rfl rfl (B rfl) (Yv.bytesStr rfl by_27 st_9 (Eg rfl rfl id)) ?_
  refine AWQ.ygF rfl rfl rfl rfl (B rfl) (Yv.neqS rfl (Eg rfl rfl id) (Eg rfl rfl id)) ?_
  refine AWQ.y rfl rfl (B rfl) (Yv.pickOr (t := .const (.bool true)) rfl (E rfl rfl) (Eg rfl rfl id)) ?_
  refine AWQ.y rfl rfl (B rfl) (Yv.move rfl (E rfl rfl)) ?_
  refine AWQ.ygF rfl rfl rfl rfl (B rfl) (Yv.loadBoxA rfl ag_25 (i := 2) rfl (E rfl rfl) rfl rfl) ?_
  refine AWQ.retype (k := 39) rfl (lent_img i) ?_
  refine AWQ.callPgF rfl rfl rfl rfl (B rfl) rfl ce_11 (E rfl rfl) (evsC (Eg rfl rfl id) evs0) (fun hg => check11 i hi) (fun t S h => h) ?_
  refine AWQ.ygF rfl rfl rfl rfl (B rfl) (Yv.loadBoxA rfl ag_25 (i := 1) rfl (E rfl rfl) rfl rfl) ?_
  refine AWQ.callPgF rfl rfl rfl rfl (B rfl) rfl ce_12 (E rfl rfl) (evsC (Eg rfl rfl id) evs0) (fun hg => check12 i hi) (fun t S h => h) ?_
  refine AWQ.ygF rfl rfl rfl rfl (B rfl) (Yv.neq rfl (Eg rfl rfl id) (Eg rfl rfl id)) ?_
  refine AWQ.y rfl rfl (B rfl) (Yv.pickOr (t := .const (.bool true)) rfl (E rfl rfl) (Eg rfl rfl id)) ?_
  refine AWQ.nil ?_
  refine AW.cond rfl (fun h0t => ?_) (fun h0f => ?_)
  ·
    try replace h0t := of_decide_eq_true h0t
    simp at h0t
  ·
    try replace h0f := of_decide_eq_false h0f
    refine AW.skip ?_
    refine AW.seq ?_
    refine AW.rseq ?_
    refine AWL.y rfl rfl (B rfl) (Yv.assign rfl (E rfl rfl)) ?_
    refine AWL.nil ?_
    refine AW.block ?_
    refine AW.loop2 (fun (j : Nat) (bs : List UInt8) => [(1, true, .v (.pointer (some ⟨b1, 0, none⟩))), (3, true, .v (.pointer (some ⟨b3, 0, none⟩))), (4, true, u8s (WriteF i)), (6, true, .v (.slice A20 (WriteF i).length c20)), (8, true, u8s (WriteF i)), (10, true, .v (.int .i64 (j : Int)))]) (fun (j : Nat) (bs : List UInt8) => [.row A20 (WriteF i).length c20 5 1 (List.map u8 bs), .box b1 25 [.v (.int .u64 i.entry), .sl 4 (i.segs.flatMap segCells)], .box b3 25 [.v (.int .u64 i.entry), .sl 4 (i.segs.flatMap lentCells)]]) (fun (j : Nat) (bs : List UInt8) => j ≤ (WriteF i).length ∧ bs.length = (WriteF i).length) (fun (j : Nat) (bs : List UInt8) => (WriteF i).length - j) 0 (WriteF i) ?_ ?_ ?_ ?_
    · exact ⟨Nat.zero_le _, rfl⟩
    · exact (Sub.cons rfl rfl (Sub.cons rfl rfl (Sub.cons rfl rfl (Sub.cons rfl rfl (Sub.cons rfl rfl (Sub.cons rfl rfl Sub.nil))))))
    · rfl
    ·
      intro j bs hinv
      obtain ⟨hj, hbl⟩ := hinv
      refine AW.seq ?_
      refine AW.rseq ?_
      refine AWL.y rfl rfl (B rfl) (Yv.move rfl (E rfl rfl)) ?_
      refine AWL.y rfl rfl (B rfl) (Yv.move rfl (E rfl rfl)) ?_
      refine AWL.y rfl rfl (B rfl) (Yv.lenV rfl so_27 (E rfl rfl)) ?_
      refine AWL.y rfl rfl (B rfl) (Yv.lss rfl (E rfl rfl) (E rfl rfl)) ?_
      refine AWL.nil ?_
      refine AW.cond rfl (fun h1t => ?_) (fun h1f => ?_)
      ·
        try replace h1t := of_decide_eq_true h1t
        refine AW.skip ?_
        refine AW.seq ?_
        refine AW.block ?_
        refine AW.region ?_
        refine AWL.y rfl rfl (B rfl) (Yv.move rfl (E rfl rfl)) ?_
        refine AWL.y rfl rfl (B rfl) (Yv.move rfl (E rfl rfl)) ?_
        refine AWL.y rfl rfl (B rfl) (Yv.move rfl (E rfl rfl)) ?_
        refine AWL.y rfl rfl (B rfl) (Yv.move rfl (E rfl rfl)) ?_
        refine AWL.y rfl rfl (B rfl) (Yv.indexRow rfl ss_27 (i := 0) rfl (E rfl rfl) (E rfl rfl) (fun hg => ⟨rfl, by omega⟩)) ?_
        refine AWL.y rfl rfl (B rfl) (Yv.loadEp rfl ag_5 (i := 0) rfl (E rfl rfl) (fun hg => u8_get (by omega))) ?_
        refine AWL.y rfl rfl (B rfl) (Yv.compl rfl (E rfl rfl)) ?_
        refine AWL.y rfl rfl (B rfl) (Yv.indexRow rfl ss_27 (i := 0) rfl (E rfl rfl) (E rfl rfl) (fun hg => ⟨rfl, by omega⟩)) ?_
        refine AWL.storeEp1 (i := 0) rfl rfl rfl ag_5 rfl (E rfl rfl) (E rfl rfl) rfl rfl (by simp; omega) ?_
        refine AWL.nil ?_
        refine AW.region ?_
        refine AWL.y rfl rfl (B rfl) (Yv.move rfl (E rfl rfl)) ?_
        refine AWL.y rfl rfl (B rfl) (Yv.addN_i64 rfl (E rfl rfl) (E rfl rfl) (fun hg => by omega)) ?_
        refine AWL.y rfl rfl (B rfl) (Yv.assign rfl (E rfl rfl)) ?_
        refine AWL.nil ?_
        obtain ⟨q, hq⟩ := u8_not (bs.getD j 0)
        refine ⟨j + 1, bs.set j q, ⟨by omega, by simpa using hbl⟩, by omega, ?_, ?_⟩
        · exact (Sub.cons rfl rfl (Sub.cons rfl rfl (Sub.cons rfl rfl (Sub.cons rfl rfl (Sub.cons rfl rfl (Sub.cons rfl (by simp) Sub.nil))))))
        · rw [List.map_set, ← hq, Nat.mul_one]; rfl
      ·
        try replace h1f := of_decide_eq_false h1f
        refine AW.exit ?_
        refine AW.rseq ?_
        refine AWL.y rfl rfl (B rfl) (Yv.move rfl (E rfl rfl)) ?_
        refine AWL.y rfl rfl (B rfl) (Yv.bytesStr rfl by_27 st_9 (E rfl rfl)) ?_
        refine AWL.y rfl rfl (B rfl) (Yv.move rfl (E rfl rfl)) ?_
        refine AWL.y rfl rfl (B rfl) (Yv.bytesStr rfl by_27 st_9 (E rfl rfl)) ?_
        refine AWL.y rfl rfl (B rfl) (Yv.eqlS rfl (E rfl rfl) (E rfl rfl)) ?_
        refine AWL.y rfl rfl (B rfl) (Yv.move rfl (E rfl rfl)) ?_
        refine AWL.ygT rfl rfl rfl rfl (B rfl) (Yv.loadBoxA rfl ag_25 (i := 2) rfl (E rfl rfl) rfl rfl) ?_
        refine AWL.ygT rfl rfl rfl rfl (B rfl) (Yv.loadBoxA rfl ag_25 (i := 1) rfl (E rfl rfl) rfl rfl) ?_
        refine AWL.callPgT rfl rfl rfl rfl (B rfl) rfl ce_13 (E rfl rfl) (evsC (Eg rfl rfl id) (evsC (Eg rfl rfl id) evs0)) (fun hg => kept13 i hi) (fun t S h => h) ?_
        refine AWL.y rfl rfl (B rfl) (Yv.pickAnd rfl (E rfl rfl) (Eg rfl rfl id)) ?_
        refine AWL.y rfl rfl (B rfl) (Yv.move rfl (E rfl rfl)) ?_
        refine AWL.callPgT rfl rfl rfl rfl (B rfl) rfl ce_14 (E rfl rfl) evs0 (fun hg => known14) (fun t S h => h) ?_
        refine AWL.y rfl rfl (B rfl) (Yv.pickAnd rfl (E rfl rfl) (Eg rfl rfl id)) ?_
        refine AWL.y rfl rfl (B rfl) (Yv.assign rfl (E rfl rfl)) ?_
        refine AWL.nil ?_
        refine AW.ret (retI (.tmp rfl .nil) ?_)
        simp [tupOf]

end Go.Proofs.Ytckkcncgglfbbaa
