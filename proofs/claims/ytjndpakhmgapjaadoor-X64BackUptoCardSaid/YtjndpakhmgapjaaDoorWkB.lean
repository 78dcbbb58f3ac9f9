/-
  CONTRACTS of the laws of the x64 seat: Back; walked by program.
-/
import Derived.Test.YtjndpakhmgapjaaDoorWkK
import Derived.Test.YtjndpakhmgapjaaDoorCut
import Derived.Test.YtjndpakhmgapjaaDoorLst
namespace Go.Proofs.YtjndpakhmgapjaaDoor
open Go Go.RowKit
set_option linter.unusedVariables false
set_option linter.unnecessarySimpa false
set_option linter.unusedSimpArgs false

set_option maxHeartbeats 400000 in
theorem X64Back5F (i : Ins) (tail : List UInt8) (hv : validF i = false) :
    ACalls Tryd.prog 5 [insT i, u8s tail] [] fun t_ S => t_ = .v (.bool true) := by
  refine ACalls.intro Tryd.func5 rfl Tryd.ntmps5 (Nat.le_of_ble_eq_true rfl) rfl fun X w0 => ?_
  refine AW.rseq ?_
  refine AWL.boxOp rfl rfl (B rfl) rfl (E rfl rfl) rfl (fun b2 => ?_)
  refine AWL.y rfl rfl (B rfl) (Yv.assign rfl (E rfl rfl)) ?_
  refine AWL.nil ?_
  refine AW.rseq ?_
  refine AWL.y rfl rfl (B rfl) (Yv.loadBoxA rfl ag_23 (i := 0) rfl (E rfl rfl) rfl rfl) ?_
  refine AWL.callT rfl rfl (B rfl) rfl ce_11 (E rfl rfl) (evsC (E rfl rfl) evs0) (encode19 i) ?_
  rintro t17 S17 rfl
  rw [if_neg (ne_true_of_eq_false hv)]
  refine AWL.y rfl rfl (B rfl) (Yv.move rfl (E rfl rfl)) ?_
  refine AWL.y rfl rfl (B rfl) (Yv.extract rfl (E rfl rfl) rfl) ?_
  refine AWL.y rfl rfl (B rfl) (Yv.extract rfl (E rfl rfl) rfl) ?_
  refine AWL.y rfl rfl (B rfl) (Yv.assign rfl (E rfl rfl)) ?_
  refine AWL.y rfl rfl (B rfl) (Yv.assign rfl (E rfl rfl)) ?_
  refine AWL.nil ?_
  refine AW.seq ?_
  refine AW.rseq ?_
  refine AWL.y rfl rfl (B rfl) (Yv.move rfl (E rfl rfl)) ?_
  refine AWL.y rfl rfl (B rfl) (Yv.neq rfl (E rfl rfl) (E rfl rfl)) ?_
  refine AWL.nil ?_
  refine AW.cond rfl (fun h0t => ?_) (fun h0f => ?_)
  ·
   try replace h0t := of_decide_eq_true h0t
   refine AW.rseq ?_
   refine AWL.y rfl rfl (B rfl) (Yv.move rfl (E rfl rfl)) ?_
   refine AWL.y rfl rfl (B rfl) (Yv.eql rfl (E rfl rfl) (E rfl rfl)) ?_
   refine AWL.y rfl rfl (B rfl) (Yv.move rfl (E rfl rfl)) ?_
   refine AWL.ygT rfl rfl rfl rfl (B rfl) (Yv.move rfl (E rfl rfl)) ?_
   refine AWL.ygT rfl rfl rfl rfl (B rfl) (Yv.lenV rfl so_24 (Eg rfl rfl id)) ?_
   refine AWL.ygT rfl rfl rfl rfl (B rfl) (Yv.eql rfl (Eg rfl rfl id) (E rfl rfl)) ?_
   refine AWL.y rfl rfl (B rfl) (Yv.pickAnd rfl (E rfl rfl) (Eg rfl rfl id)) ?_
   refine AWL.y rfl rfl (B rfl) (Yv.move rfl (E rfl rfl)) ?_
   refine AWL.ygT rfl rfl rfl rfl (B rfl) (Yv.loadBoxA rfl ag_23 (i := 0) rfl (E rfl rfl) rfl rfl) ?_
   refine AWL.callPgT rfl rfl rfl rfl (B rfl) rfl ce_12 (E rfl rfl) (evsC (Eg rfl rfl id) evs0) (fun hg => valid27 i) (fun t S h => h) ?_
   refine AWL.ygT rfl rfl rfl rfl (B rfl) (Yv.not rfl (Eg rfl rfl id)) ?_
   refine AWL.y rfl rfl (B rfl) (Yv.pickAnd rfl (E rfl rfl) (Eg rfl rfl id)) ?_
   refine AWL.y rfl rfl (B rfl) (Yv.move rfl (E rfl rfl)) ?_
   refine AWL.callPgT rfl rfl rfl rfl (B rfl) rfl ce_16 (E rfl rfl) evs0 (fun hg => known16) (fun t S h => h) ?_
   refine AWL.y rfl rfl (B rfl) (Yv.pickAnd rfl (E rfl rfl) (Eg rfl rfl id)) ?_
   refine AWL.y rfl rfl (B rfl) (Yv.assign rfl (E rfl rfl)) ?_
   refine AWL.nil ?_
   refine AW.ret (retI (.tmp rfl .nil) ?_)
   rw [hv]; rfl
  try replace h0f := of_decide_eq_false h0f
  cases h0f

set_option maxHeartbeats 400000 in
theorem X64Back5T (i : Ins) (hI : I64 i.imm) (tail : List UInt8) (ht : tail.length ≤ 1099511627) (hv : validF i = true) :
    ACalls Tryd.prog 5 [insT i, u8s tail] [] fun t_ S => t_ = .v (.bool true) := by
  have hel := encF_len i
  have he1 := enc_pos hv hI
  obtain ⟨hd1, hd2, hd3⟩ := dec_enc hv hI tail
  refine ACalls.intro Tryd.func5 rfl Tryd.ntmps5 (Nat.le_of_ble_eq_true rfl) rfl fun X w0 => ?_
  refine AW.rseq ?_
  refine AWL.boxOp rfl rfl (B rfl) rfl (E rfl rfl) rfl (fun b2 => ?_)
  refine AWL.y rfl rfl (B rfl) (Yv.assign rfl (E rfl rfl)) ?_
  refine AWL.nil ?_
  refine AW.rseq ?_
  refine AWL.y rfl rfl (B rfl) (Yv.loadBoxA rfl ag_23 (i := 0) rfl (E rfl rfl) rfl rfl) ?_
  refine AWL.callT rfl rfl (B rfl) rfl ce_11 (E rfl rfl) (evsC (E rfl rfl) evs0) (encode19 i) ?_
  rintro t17 S17 rfl
  rw [if_pos hv]
  refine AWL.y rfl rfl (B rfl) (Yv.move rfl (E rfl rfl)) ?_
  refine AWL.y rfl rfl (B rfl) (Yv.extract rfl (E rfl rfl) rfl) ?_
  refine AWL.y rfl rfl (B rfl) (Yv.extract rfl (E rfl rfl) rfl) ?_
  refine AWL.y rfl rfl (B rfl) (Yv.assign rfl (E rfl rfl)) ?_
  refine AWL.y rfl rfl (B rfl) (Yv.assign rfl (E rfl rfl)) ?_
  refine AWL.nil ?_
  refine AW.seq ?_
  refine AW.rseq ?_
  refine AWL.y rfl rfl (B rfl) (Yv.move rfl (E rfl rfl)) ?_
  refine AWL.y rfl rfl (B rfl) (Yv.neq rfl (E rfl rfl) (E rfl rfl)) ?_
  refine AWL.nil ?_
  refine AW.cond rfl (fun h0t => ?_) (fun h0f => ?_)
  ·
   try replace h0t := of_decide_eq_true h0t
   cases h0t
  try replace h0f := of_decide_eq_false h0f
  refine AW.skip ?_
  refine AW.rseq ?_
  refine AWL.buildSliceRow rfl rfl (B rfl) rfl el_24 (B rfl) rfl evs0 (Nat.le_of_ble_eq_true rfl) rfl rfl (fun A37 => ?_)
  refine AWL.y rfl rfl (B rfl) (Yv.move rfl (E rfl rfl)) ?_
  refine AWL.appendRow (i := 1) rfl rfl (B rfl) rfl el_24 (B rfl) rfl (E rfl rfl) (SrcT.sl so_24 (B rfl) (E rfl rfl) len_u8s) (by unfold maxLen; omega) (by omega) (fun A39 c39 => ?_)
  refine AWL.y rfl rfl (B rfl) (Yv.move rfl (E rfl rfl)) ?_
  refine AWL.appendRow (i := 1) rfl rfl (B rfl) rfl el_24 (B rfl) rfl (E rfl rfl) (SrcT.sl so_24 (B rfl) (E rfl rfl) len_u8s) (by unfold maxLen; omega) (by omega) (fun A41 c41 => ?_)
  refine AWL.freeze 1 41 rfl (B rfl) rfl ?_
  refine AWL.retype (k := 41) (t' := u8s (encF i ++ tail)) rfl (fun w L u h => by simpa [u8s] using h) ?_
  refine AWL.y rfl rfl (B rfl) (Yv.assign rfl (E rfl rfl)) ?_
  refine AWL.nil ?_
  refine AW.rseq ?_
  refine AWL.y rfl rfl (B rfl) (Yv.move rfl (E rfl rfl)) ?_
  refine AWL.callT rfl rfl (B rfl) rfl ce_17 (E rfl rfl) (evsC (E rfl rfl) evs0) (Decode42 (encF i ++ tail) (by rw [List.length_append]; omega)) ?_
  rintro t44 S44 rfl
  rw [hd1, hd2, hd3]
  refine AWL.y rfl rfl (B rfl) (Yv.move rfl (E rfl rfl)) ?_
  refine AWL.y rfl rfl (B rfl) (Yv.extract rfl (E rfl rfl) rfl) ?_
  refine AWL.y rfl rfl (B rfl) (Yv.extract rfl (E rfl rfl) rfl) ?_
  refine AWL.y rfl rfl (B rfl) (Yv.extract rfl (E rfl rfl) rfl) ?_
  refine AWL.allocOp rfl rfl (B rfl) rfl zc_23 (fun b8 => ?_)
  refine AWL.storeBox (i := 1) rfl rfl rfl ag_23 rfl (E rfl rfl) (E rfl rfl) rfl rfl (Nat.le_of_ble_eq_true rfl) ?_
  refine AWL.y rfl rfl (B rfl) (Yv.assign rfl (E rfl rfl)) ?_
  refine AWL.y rfl rfl (B rfl) (Yv.assign rfl (E rfl rfl)) ?_
  refine AWL.nil ?_
  refine AW.seq ?_
  refine AW.rseq ?_
  refine AWL.y rfl rfl (B rfl) (Yv.move rfl (E rfl rfl)) ?_
  refine AWL.y rfl rfl (B rfl) (Yv.neq rfl (E rfl rfl) (E rfl rfl)) ?_
  refine AWL.y rfl rfl (B rfl) (Yv.move rfl (E rfl rfl)) ?_
  refine AWL.ygF rfl rfl rfl rfl (B rfl) (Yv.loadBoxA rfl ag_23 (i := 1) rfl (E rfl rfl) rfl rfl) ?_
  refine AWL.ygF rfl rfl rfl rfl (B rfl) (Yv.loadBoxA rfl ag_23 (i := 0) rfl (E rfl rfl) rfl rfl) ?_
  refine AWL.ygF rfl rfl rfl rfl (B rfl) (Yv.neqA (us := insVals i) (vs := insVals i) rfl fl_23 (E rfl rfl) (E rfl rfl) rfl rfl (ins_eq i i)) ?_
  refine AWL.y rfl rfl (B rfl) (Yv.pickOr (t := .const (.bool true)) rfl (E rfl rfl) (Eg rfl rfl id)) ?_
  refine AWL.y rfl rfl (B rfl) (Yv.move rfl (E rfl rfl)) ?_
  refine AWL.ygF rfl rfl rfl rfl (B rfl) (Yv.move rfl (E rfl rfl)) ?_
  refine AWL.ygF rfl rfl rfl rfl (B rfl) (Yv.move rfl (E rfl rfl)) ?_
  refine AWL.ygF rfl rfl rfl rfl (B rfl) (Yv.lenSl rfl so_24 (B rfl) (Eg rfl rfl id) len_u8s) ?_
  refine AWL.ygF rfl rfl rfl rfl (B rfl) (Yv.neq rfl (Eg rfl rfl id) (Eg rfl rfl id)) ?_
  refine AWL.y rfl rfl (B rfl) (Yv.pickOr (t := .const (.bool true)) rfl (E rfl rfl) (Eg rfl rfl id)) ?_
  refine AWL.y rfl rfl (B rfl) (Yv.move rfl (E rfl rfl)) ?_
  refine AWL.ygF rfl rfl rfl rfl (B rfl) (Yv.move rfl (E rfl rfl)) ?_
  refine AWL.ygF rfl rfl rfl rfl (B rfl) (Yv.lss rfl (Eg rfl rfl id) (E rfl rfl)) ?_
  refine AWL.y rfl rfl (B rfl) (Yv.pickOr (t := .const (.bool true)) rfl (E rfl rfl) (Eg rfl rfl id)) ?_
  refine AWL.y rfl rfl (B rfl) (Yv.move rfl (E rfl rfl)) ?_
  refine AWL.ygF rfl rfl rfl rfl (B rfl) (Yv.move rfl (E rfl rfl)) ?_
  refine AWL.ygF rfl rfl rfl rfl (B rfl) (Yv.gtr rfl (Eg rfl rfl id) (E rfl rfl)) ?_
  refine AWL.y rfl rfl (B rfl) (Yv.pickOr (t := .const (.bool true)) rfl (E rfl rfl) (Eg rfl rfl id)) ?_
  refine AWL.y rfl rfl (B rfl) (Yv.move rfl (E rfl rfl)) ?_
  refine AWL.ygF rfl rfl rfl rfl (B rfl) (Yv.loadBoxA rfl ag_23 (i := 0) rfl (E rfl rfl) rfl rfl) ?_
  refine AWL.callPgF rfl rfl rfl rfl (B rfl) rfl ce_12 (E rfl rfl) (evsC (Eg rfl rfl id) evs0) (fun hg => valid27 i) (fun t S h => h) ?_
  refine AWL.ygF rfl rfl rfl rfl (B rfl) (Yv.not rfl (Eg rfl rfl id)) ?_
  refine AWL.y rfl rfl (B rfl) (Yv.pickOr (t := .const (.bool true)) rfl (E rfl rfl) (Eg rfl rfl id)) ?_
  refine AWL.nil ?_
  refine AW.cond rfl (fun h1t => ?_) (fun h1f => ?_)
  ·
   try replace h1t := of_decide_eq_true h1t
   simp only [hv, Bool.or_eq_true, Bool.and_eq_true, Bool.or_eq_false_iff, Bool.and_eq_false_iff, Bool.not_eq_true', Bool.not_eq_false', decide_eq_true_eq, decide_eq_false_iff_not, Decidable.not_not, ne_eq, not_true, Bool.true_eq_false, false_or, or_false] at h1t
   omega
  try replace h1f := of_decide_eq_false h1f
  refine AW.skip ?_
  refine AW.seq ?_
  refine AW.rseq ?_
  refine AWL.y rfl rfl (B rfl) (Yv.assign rfl (E rfl rfl)) ?_
  refine AWL.nil ?_
  refine AW.block ?_
  refine AW.loop (fun (k : Nat) => [(5, true, u8s (encF i)), (11, true, .v (.int .i64 (k : Int)))]) (fun (k : Nat) => [.box b2 23 (insCells i), .box b8 23 (insCells i)]) (fun (k : Nat) => k ≤ (encF i).length) (fun (k : Nat) => (encF i).length - k) 0 ?_ ?_ ?_ ?_
  · exact Nat.zero_le _
  · exact (Sub.cons rfl rfl (Sub.cons rfl rfl Sub.nil))
  · rfl
  ·
   intro k hinv
   refine AW.seq ?_
   refine AW.rseq ?_
   refine AWL.y rfl rfl (B rfl) (Yv.move rfl (E rfl rfl)) ?_
   refine AWL.y rfl rfl (B rfl) (Yv.move rfl (E rfl rfl)) ?_
   refine AWL.y rfl rfl (B rfl) (Yv.lenSl rfl so_24 (B rfl) (E rfl rfl) len_u8s) ?_
   refine AWL.y rfl rfl (B rfl) (Yv.lss rfl (E rfl rfl) (E rfl rfl)) ?_
   refine AWL.nil ?_
   refine AW.cond rfl (fun h2t => ?_) (fun h2f => ?_)
   ·
    try replace h2t := of_decide_eq_true h2t
    refine AW.skip ?_
    refine AW.seq ?_
    refine AW.block ?_
    refine AW.rseq ?_
    refine AWL.y rfl rfl (B rfl) (Yv.move rfl (E rfl rfl)) ?_
    refine AWL.y rfl rfl (B rfl) (Yv.move rfl (E rfl rfl)) ?_
    refine AWL.y rfl rfl (B rfl) (Yv.sliceMap rfl ss_24 (E rfl rfl) Bound.none_ (Bound.some_ (E rfl rfl) (fun hg => rfl)) (fun hg => ⟨by omega, by omega⟩)) ?_
    refine AWL.callT rfl rfl (B rfl) rfl ce_17 (E rfl rfl) (evsC (E rfl rfl) evs0) (Decode42 ((encF i).take k) (by rw [List.length_take]; omega)) ?_
    rintro t84 S84 rfl
    rw [dec_cut hv hI (show k < (encF i).length by omega)]
    refine AWL.y rfl rfl (B rfl) (Yv.move rfl (E rfl rfl)) ?_
    refine AWL.y rfl rfl (B rfl) (Yv.extract rfl (E rfl rfl) rfl) ?_
    refine AWL.y rfl rfl (B rfl) (Yv.extract rfl (E rfl rfl) rfl) ?_
    refine AWL.y rfl rfl (B rfl) (Yv.extract rfl (E rfl rfl) rfl) ?_
    refine AWL.allocOp rfl rfl (B rfl) rfl zc_23 (fun b12 => ?_)
    refine AWL.storeBox (i := 2) rfl rfl rfl ag_23 rfl (E rfl rfl) (E rfl rfl) rfl rfl (Nat.le_of_ble_eq_true rfl) ?_
    refine AWL.y rfl rfl (B rfl) (Yv.assign rfl (E rfl rfl)) ?_
    refine AWL.y rfl rfl (B rfl) (Yv.assign rfl (E rfl rfl)) ?_
    refine AWL.nil ?_
    refine AW.rseq ?_
    refine AWL.y rfl rfl (B rfl) (Yv.move rfl (E rfl rfl)) ?_
    refine AWL.y rfl rfl (B rfl) (Yv.neq rfl (E rfl rfl) (E rfl rfl)) ?_
    refine AWL.nil ?_
    refine AW.cond rfl (fun h3t => ?_) (fun h3f => ?_)
    ·
     try replace h3t := of_decide_eq_true h3t
     cases h3t
    try replace h3f := of_decide_eq_false h3f
    refine AW.skip ?_
    refine AW.dropAt 2 ?_
    refine AW.region ?_
    refine AWL.y rfl rfl (B rfl) (Yv.move rfl (E rfl rfl)) ?_
    refine AWL.y rfl rfl (B rfl) (Yv.addN_i64 rfl (E rfl rfl) (E rfl rfl) (fun hg => by omega)) ?_
    refine AWL.y rfl rfl (B rfl) (Yv.assign rfl (E rfl rfl)) ?_
    refine AWL.nil ?_
    refine ⟨k + 1, by omega, by omega, Sub.cons rfl rfl (Sub.cons rfl (by simp) Sub.nil), rfl⟩
   try replace h2f := of_decide_eq_false h2f
   refine AW.exit ?_
   refine AW.rseq ?_
   refine AWL.callP rfl rfl (B rfl) rfl ce_16 (E rfl rfl) evs0 (known16) (fun t S h => h) ?_
   refine AWL.y rfl rfl (B rfl) (Yv.assign rfl (E rfl rfl)) ?_
   refine AWL.nil ?_
   refine AW.ret (retI (.tmp rfl .nil) ?_)
   rfl

end Go.Proofs.YtjndpakhmgapjaaDoor
