/-
  CONTRACTS of Places and of the document for labels; walked by program.
-/
import Derived.Test.YtabkedlmpaoloaaWk9
import Derived.Test.YtabkedlmpaoloaaJmp
namespace Go.Proofs.Ytabkedlmpaoloaa
open Go Go.RowKit
set_option linter.unusedVariables false
set_option linter.unnecessarySimpa false
set_option linter.unusedSimpArgs false

set_option maxHeartbeats 1000000 in
theorem Places15 (l : List Line) (hl : l.length ≤ NL) (at_ : Int) (f0 : 0 ≤ at_) :
    ACalls Try.prog 15 [linesT l, .v (.int .u64 at_)] [] (fun t_ S => t_ = .tup [.sl 1 ((plcL l at_).map zq), .v (.int .i64 (laidE l at_))]) := by
  have hnl : l.length ≤ 1099511627 := hl
  unfold NL at hl
  have hpb := plF_bound (sizesF_le l) (by rw [sizesF_len]; omega)
  have hsl := sizesF_len l
  have hpl : (plF (sizesF l)).length = l.length + 1 := by rw [plF_len, hsl]
  refine ACalls.intro Try.func15 rfl Try.ntmps15 (Nat.le_of_ble_eq_true rfl) rfl fun X w0 => ?_
  refine AW.rseq ?_
  refine AWL.y rfl rfl (B rfl) (Yv.assign rfl (E rfl rfl)) ?_
  refine AWL.y rfl rfl (B rfl) (Yv.assign rfl (E rfl rfl)) ?_
  refine AWL.nil ?_
  refine AW.rseq ?_
  refine AWL.y rfl rfl (B rfl) (Yv.move rfl (E rfl rfl)) ?_
  refine AWL.y rfl rfl (B rfl) (Yv.move rfl (E rfl rfl)) ?_
  refine AWL.callAll rfl rfl (B rfl) rfl ce_22 (E rfl rfl) (evsC (E rfl rfl) (evsC (E rfl rfl) evs0)) (laid22 l (by unfold NL; omega) at_ f0) ?_
  rintro t13 S13 ⟨pv, sv, rfl, hlaid⟩
  refine AWL.y rfl rfl (B rfl) (Yv.move rfl (E rfl rfl)) ?_
  refine AWL.y rfl rfl (B rfl) (Yv.extract rfl (E rfl rfl) rfl) ?_
  refine AWL.y rfl rfl (B rfl) (Yv.extract rfl (E rfl rfl) rfl) ?_
  refine AWL.y rfl rfl (B rfl) (Yv.extract rfl (E rfl rfl) rfl) ?_
  refine AWL.y rfl rfl (B rfl) (Yv.assign rfl (E rfl rfl)) ?_
  refine AWL.y rfl rfl (B rfl) (Yv.assign rfl (E rfl rfl)) ?_
  refine AWL.y rfl rfl (B rfl) (Yv.assign rfl (E rfl rfl)) ?_
  refine AWL.nil ?_
  refine AW.seq ?_
  refine AW.rseq ?_
  refine AWL.y rfl rfl (B rfl) (Yv.move rfl (E rfl rfl)) ?_
  refine AWL.y rfl rfl (B rfl) (Yv.neq rfl (E rfl rfl) (E rfl rfl)) ?_
  refine AWL.nil ?_
  refine AW.cond rfl (fun h0t => ?_) (fun h0f => ?_)
  ·
   try replace h0t := of_decide_eq_true h0t
   refine AW.rseq ?_
   refine AWL.y rfl rfl (B rfl) (Yv.move rfl (E rfl rfl)) ?_
   refine AWL.y rfl rfl (B rfl) (Yv.assign rfl (E rfl rfl)) ?_
   refine AWL.y rfl rfl (B rfl) (Yv.assign rfl (E rfl rfl)) ?_
   refine AWL.nil ?_
   refine AW.retype (k := 4) (t' := .sl 1 []) rfl (nil_sl (by decide)) ?_
   refine AW.ret (retI (.tmp rfl (.tmp rfl .nil)) ?_)
   rw [plcL, if_neg (by simpa using h0t)]
   rfl
  try replace h0f := of_decide_eq_false h0f
  have hle : laidE l at_ = 0 := by simpa using h0f
  obtain ⟨b, A1, A2, P, rfl, rfl, rfl⟩ := hlaid hle
  have hat := laidE_at hle
  refine AW.skip ?_
  refine AW.seq ?_
  refine AW.rseq ?_
  refine AWL.y rfl rfl (B rfl) (Yv.move rfl (E rfl rfl)) ?_
  refine AWL.y rfl rfl (B rfl) (Yv.lenV rfl so_37 (E rfl rfl)) ?_
  refine AWL.y rfl rfl (B rfl) (Yv.move rfl (E rfl rfl)) ?_
  refine AWL.nil ?_
  refine AW.block ?_
  refine AW.loop (fun (j : Nat) => [(1, true, .v (.int .u64 at_)), (7, true, .v (.slice P (l.length + 1) (l.length + 1))), (21, true, .v (.int .i64 ((l.length + 1 : Nat) : Int))), (22, true, .v (.int .i64 (j : Int)))]) (fun (j : Nat) => (LB b l A1 A2 (sizesF l) (tgF l) ++ [Ent.row P (l.length + 1) (l.length + 1) 23 1 ((mixA (plF (sizesF l)) at_ j).map zq)])) (fun (j : Nat) => j ≤ l.length + 1) (fun (j : Nat) => l.length + 1 - j) 0 ?_ ?_ ?_ ?_
  · exact Nat.zero_le _
  · exact (Sub.cons rfl rfl (Sub.cons rfl rfl (Sub.cons rfl rfl (Sub.cons rfl rfl Sub.nil))))
  · rw [mixA_zero]
  ·
   intro j hinv
   refine AW.rseq ?_
   refine AWL.y rfl rfl (B rfl) (Yv.lss rfl (E rfl rfl) (E rfl rfl)) ?_
   refine AWL.nil ?_
   refine AW.seq ?_
   refine AW.cond rfl (fun h1t => ?_) (fun h1f => ?_)
   ·
    try replace h1t := of_decide_eq_true h1t
    refine AW.skip ?_
    refine AW.seq ?_
    refine AW.block ?_
    refine AW.rseq ?_
    refine AWL.y rfl rfl (B rfl) (Yv.move rfl (E rfl rfl)) ?_
    refine AWL.y rfl rfl (B rfl) (Yv.assign rfl (E rfl rfl)) ?_
    refine AWL.nil ?_
    have hpj := hpb j
    have hmg : (mixA (plF (sizesF l)) at_ j).getD j 0 = ((plF (sizesF l)).getD j 0 : Nat) := mixA_get (by omega)
    refine AW.region ?_
    refine AWL.y rfl rfl (B rfl) (Yv.move rfl (E rfl rfl)) ?_
    refine AWL.y rfl rfl (B rfl) (Yv.move rfl (E rfl rfl)) ?_
    refine AWL.y rfl rfl (B rfl) (Yv.indexRow rfl ss_37 (i := 3) rfl (E rfl rfl) (E rfl rfl) (fun hg => ⟨rfl, by omega⟩)) ?_
    refine AWL.y rfl rfl (B rfl) (Yv.loadEp rfl ag_23 (i := 3) rfl (E rfl rfl) (fun hg => zq_get (by rw [mixA_len]; omega))) ?_
    refine AWL.y rfl rfl (B rfl) (Yv.move rfl (E rfl rfl)) ?_
    refine AWL.y rfl rfl (B rfl) (Yv.addN_u64 rfl (E rfl rfl) (E rfl rfl) (fun hg => by omega)) ?_
    refine AWL.y rfl rfl (B rfl) (Yv.indexRow rfl ss_37 (i := 3) rfl (E rfl rfl) (E rfl rfl) (fun hg => ⟨rfl, by omega⟩)) ?_
    refine AWL.storeEp1 (i := 3) rfl rfl rfl ag_23 rfl (E rfl rfl) (E rfl rfl) rfl rfl (by rw [List.length_map, mixA_len]; omega) ?_
    refine AWL.nil ?_
    refine AW.region ?_
    refine AWL.y rfl rfl (B rfl) (Yv.addN_i64 rfl (E rfl rfl) (E rfl rfl) (fun hg => by omega)) ?_
    refine AWL.y rfl rfl (B rfl) (Yv.move rfl (E rfl rfl)) ?_
    refine AWL.nil ?_
    refine ⟨j + 1, by omega, by omega, Sub.cons rfl rfl (Sub.cons rfl rfl (Sub.cons rfl rfl (Sub.cons rfl (by simp) Sub.nil))), ?_⟩
    rw [← mixA_set (by omega) rfl, ← hmg]
    rfl
   try replace h1f := of_decide_eq_false h1f
   refine AW.exit ?_
   obtain rfl : j = l.length + 1 := by omega
   rw [← hpl, mixA_all, hpl]
   refine AW.freeze 3 7 rfl (B rfl) rfl ?_
   refine AW.rseq ?_
   refine AWL.y rfl rfl (B rfl) (Yv.move rfl (E rfl rfl)) ?_
   refine AWL.y rfl rfl (B rfl) (Yv.assign rfl (E rfl rfl)) ?_
   refine AWL.y rfl rfl (B rfl) (Yv.assign rfl (E rfl rfl)) ?_
   refine AWL.nil ?_
   refine AW.ret (retI (.tmp rfl (.tmp rfl .nil)) ?_)
   rw [plcL, if_pos hle, hle]
   rfl

set_option maxHeartbeats 400000 in
theorem where20 (l : List Line) (hl : l.length ≤ NL) (k : Int) :
    ACalls Try.prog 20 [linesT l, .v (.int .i64 k)] [] (fun t_ S => t_ = .v (.int .i64 (whereF l k))) := by
  have hnl : l.length ≤ 1099511627 := hl
  unfold NL at hl
  refine ACalls.intro Try.func20 rfl Try.ntmps20 (Nat.le_of_ble_eq_true rfl) rfl fun X w0 => ?_
  refine AW.rseq ?_
  refine AWL.y rfl rfl (B rfl) (Yv.assign rfl (E rfl rfl)) ?_
  refine AWL.nil ?_
  refine AW.seq ?_
  refine AW.rseq ?_
  refine AWL.y rfl rfl (B rfl) (Yv.assign rfl (E rfl rfl)) ?_
  refine AWL.nil ?_
  refine AW.block ?_
  refine AW.loop (fun (j : Nat) => [(0, true, linesT l), (1, true, .v (.int .i64 k)), (5, true, .v (.int .i64 (j : Int)))]) (fun (j : Nat) => []) (fun (j : Nat) => j ≤ l.length ∧ ∀ i, i < j → isLab k (l.getD i default) = false) (fun (j : Nat) => l.length - j) 0 ?_ ?_ ?_ ?_
  · exact ⟨Nat.zero_le _, fun i hi => by omega⟩
  · exact (Sub.cons rfl rfl (Sub.cons rfl rfl (Sub.cons rfl rfl Sub.nil)))
  · rfl
  ·
   intro j hinv
   obtain ⟨hj, hpre⟩ := hinv
   refine AW.seq ?_
   refine AW.rseq ?_
   refine AWL.y rfl rfl (B rfl) (Yv.move rfl (E rfl rfl)) ?_
   refine AWL.y rfl rfl (B rfl) (Yv.move rfl (E rfl rfl)) ?_
   refine AWL.y rfl rfl (B rfl) (Yv.lenSl rfl so_22 (B rfl) (E rfl rfl) len_lines) ?_
   refine AWL.y rfl rfl (B rfl) (Yv.lss rfl (E rfl rfl) (E rfl rfl)) ?_
   refine AWL.nil ?_
   refine AW.cond rfl (fun h0t => ?_) (fun h0f => ?_)
   ·
    try replace h0t := of_decide_eq_true h0t
    refine AW.skip ?_
    refine AW.seq ?_
    refine AW.block ?_
    refine AW.rseq ?_
    refine AWL.y rfl rfl (B rfl) (Yv.move rfl (E rfl rfl)) ?_
    refine AWL.y rfl rfl (B rfl) (Yv.move rfl (E rfl rfl)) ?_
    refine AWL.y rfl rfl (B rfl) (Yv.indexSl rfl ss_22 (B rfl) (E rfl rfl) (E rfl rfl) (fun hg => ⟨rfl, (by first | omega | (simp only [len_lines, len_inss, len_zu, len_ints, len_u8s, len_zq]; omega))⟩)) ?_
    refine AWL.y rfl rfl (B rfl) (Yv.fieldRp rfl fo_32_0 (E rfl rfl)) ?_
    refine AWL.y rfl rfl (B rfl) (Yv.loadRp rfl ag_3 (E rfl rfl) (fun hg => line_at0 (by omega))) ?_
    refine AWL.y rfl rfl (B rfl) (Yv.eql rfl (E rfl rfl) (E rfl rfl)) ?_
    refine AWL.y rfl rfl (B rfl) (Yv.move rfl (E rfl rfl)) ?_
    refine AWL.ygT rfl rfl rfl rfl (B rfl) (Yv.move rfl (E rfl rfl)) ?_
    refine AWL.ygT rfl rfl rfl rfl (B rfl) (Yv.move rfl (E rfl rfl)) ?_
    refine AWL.ygT rfl rfl rfl rfl (B rfl) (Yv.indexSl rfl ss_22 (B rfl) (Eg rfl rfl id) (Eg rfl rfl id) (fun hg => ⟨rfl, (by first | omega | (simp only [len_lines, len_inss, len_zu, len_ints, len_u8s, len_zq]; omega) | (simp only [len_lines, len_inss, len_zu, len_ints, len_u8s, len_zq]; simp only [Bool.and_eq_true, Bool.or_eq_false_iff, Bool.not_eq_true', Bool.not_eq_false', decide_eq_true_eq, decide_eq_false_iff_not] at hg; omega))⟩)) ?_
    refine AWL.ygT rfl rfl rfl rfl (B rfl) (Yv.fieldRp rfl fo_32_2 (Eg rfl rfl id)) ?_
    refine AWL.ygT rfl rfl rfl rfl (B rfl) (Yv.loadRp rfl ag_3 (Eg rfl rfl id) (fun hg => line_at7 (by omega))) ?_
    refine AWL.ygT rfl rfl rfl rfl (B rfl) (Yv.move rfl (E rfl rfl)) ?_
    refine AWL.ygT rfl rfl rfl rfl (B rfl) (Yv.eql rfl (Eg rfl rfl id) (Eg rfl rfl id)) ?_
    refine AWL.y rfl rfl (B rfl) (Yv.pickAnd rfl (E rfl rfl) (Eg rfl rfl id)) ?_
    refine AWL.nil ?_
    refine AW.cond rfl (fun h1t => ?_) (fun h1f => ?_)
    ·
     try replace h1t := of_decide_eq_true h1t
     refine AW.rseq ?_
     refine AWL.y rfl rfl (B rfl) (Yv.move rfl (E rfl rfl)) ?_
     refine AWL.y rfl rfl (B rfl) (Yv.assign rfl (E rfl rfl)) ?_
     refine AWL.nil ?_
     refine AW.ret (retI (.tmp rfl .nil) ?_)
     rw [where_at (by omega) hpre h1t]
     rfl
    try replace h1f := of_decide_eq_false h1f
    refine AW.skip ?_
    refine AW.region ?_
    refine AWL.y rfl rfl (B rfl) (Yv.move rfl (E rfl rfl)) ?_
    refine AWL.y rfl rfl (B rfl) (Yv.addN_i64 rfl (E rfl rfl) (E rfl rfl) (fun hg => by omega)) ?_
    refine AWL.y rfl rfl (B rfl) (Yv.assign rfl (E rfl rfl)) ?_
    refine AWL.nil ?_
    refine ⟨j + 1, ⟨by omega, fun i hi => ?_⟩, by omega, Sub.cons rfl rfl (Sub.cons rfl rfl (Sub.cons rfl (by simp) Sub.nil)), rfl⟩
    rcases Nat.lt_or_ge i j with h | h
    · exact hpre i h
    · rw [show i = j by omega]; exact h1f
   try replace h0f := of_decide_eq_false h0f
   refine AW.exit ?_
   refine AW.rseq ?_
   refine AWL.y rfl rfl (B rfl) (Yv.assign rfl (E rfl rfl)) ?_
   refine AWL.nil ?_
   refine AW.ret (retI (.tmp rfl .nil) ?_)
   rw [where_none (fun i hi => hpre i (by omega))]
   rfl

end Go.Proofs.Ytabkedlmpaoloaa
