/-
  CONTRACT of AsmReaches; walked by program.
-/
import Derived.Test.YtabkedlmpaoloaaWk11
namespace Go.Proofs.Ytabkedlmpaoloaa
open Go Go.RowKit
set_option linter.unusedVariables false
set_option linter.unnecessarySimpa false
set_option linter.unusedSimpArgs false

set_option maxHeartbeats 2000000 in
theorem AsmReaches5 (l : List Line) (hl : l.length ≤ 1048576) (at_ : Int) (f0 : 0 ≤ at_) :
    ACalls Try.prog 5 [linesT l, .v (.int .u64 at_)] [] fun t_ S => t_ = .v (.bool true) := by
  have hnl2 : l.length ≤ NL := by unfold NL; omega
  refine ACalls.intro Try.func5 rfl Try.ntmps5 (Nat.le_of_ble_eq_true rfl) rfl fun X w0 => ?_
  refine AW.rseq ?_
  refine AWL.y rfl rfl (B rfl) (Yv.assign rfl (E rfl rfl)) ?_
  refine AWL.nil ?_
  refine AW.rseq ?_
  refine AWL.y rfl rfl (B rfl) (Yv.move rfl (E rfl rfl)) ?_
  refine AWL.y rfl rfl (B rfl) (Yv.move rfl (E rfl rfl)) ?_
  refine AWL.callT rfl rfl (B rfl) rfl ce_15 (E rfl rfl) (evsC (E rfl rfl) (evsC (E rfl rfl) evs0)) (Places15 l hnl2 at_ f0) ?_
  rintro t18 S18 rfl
  refine AWL.y rfl rfl (B rfl) (Yv.move rfl (E rfl rfl)) ?_
  refine AWL.y rfl rfl (B rfl) (Yv.extract rfl (E rfl rfl) rfl) ?_
  refine AWL.y rfl rfl (B rfl) (Yv.extract rfl (E rfl rfl) rfl) ?_
  refine AWL.y rfl rfl (B rfl) (Yv.assign rfl (E rfl rfl)) ?_
  refine AWL.y rfl rfl (B rfl) (Yv.assign rfl (E rfl rfl)) ?_
  refine AWL.nil ?_
  refine AW.rseq ?_
  refine AWL.y rfl rfl (B rfl) (Yv.move rfl (E rfl rfl)) ?_
  refine AWL.y rfl rfl (B rfl) (Yv.move rfl (E rfl rfl)) ?_
  refine AWL.callT rfl rfl (B rfl) rfl ce_7 (E rfl rfl) (evsC (E rfl rfl) (evsC (E rfl rfl) evs0)) (Resolve7 l hnl2 at_ f0) ?_
  rintro t24 S24 rfl
  refine AWL.y rfl rfl (B rfl) (Yv.move rfl (E rfl rfl)) ?_
  refine AWL.y rfl rfl (B rfl) (Yv.extract rfl (E rfl rfl) rfl) ?_
  refine AWL.y rfl rfl (B rfl) (Yv.extract rfl (E rfl rfl) rfl) ?_
  refine AWL.y rfl rfl (B rfl) (Yv.assign rfl (E rfl rfl)) ?_
  refine AWL.y rfl rfl (B rfl) (Yv.assign rfl (E rfl rfl)) ?_
  refine AWL.nil ?_
  refine AW.seq ?_
  refine AW.rseq ?_
  refine AWL.y rfl rfl (B rfl) (Yv.move rfl (E rfl rfl)) ?_
  refine AWL.y rfl rfl (B rfl) (Yv.neq rfl (E rfl rfl) (E rfl rfl)) ?_
  refine AWL.y rfl rfl (B rfl) (Yv.move rfl (E rfl rfl)) ?_
  refine AWL.ygF rfl rfl rfl rfl (B rfl) (Yv.move rfl (E rfl rfl)) ?_
  refine AWL.ygF rfl rfl rfl rfl (B rfl) (Yv.neq rfl (Eg rfl rfl id) (E rfl rfl)) ?_
  refine AWL.y rfl rfl (B rfl) (Yv.pickOr (t := .const (.bool true)) rfl (E rfl rfl) (Eg rfl rfl id)) ?_
  refine AWL.nil ?_
  refine AW.cond rfl (fun h0t => ?_) (fun h0f => ?_)
  ·
    try replace h0t := of_decide_eq_true h0t
    have hle : ¬ laidE l at_ = 0 := by simpa using h0t
    have hq := laid_kinds hle
    refine AW.rseq ?_
    refine AWL.y rfl rfl (B rfl) (Yv.move rfl (E rfl rfl)) ?_
    refine AWL.y rfl rfl (B rfl) (Yv.move rfl (E rfl rfl)) ?_
    refine AWL.y rfl rfl (B rfl) (Yv.eql rfl (E rfl rfl) (E rfl rfl)) ?_
    refine AWL.y rfl rfl (B rfl) (Yv.move rfl (E rfl rfl)) ?_
    refine AWL.ygT rfl rfl rfl rfl (B rfl) (Yv.move rfl (E rfl rfl)) ?_
    refine AWL.ygT rfl rfl rfl rfl (B rfl) (Yv.move rfl (E rfl rfl)) ?_
    refine AWL.callPgT rfl rfl rfl rfl (B rfl) rfl ce_12 (E rfl rfl) (evsC (Eg rfl rfl id) evs0) (fun hg => check12 l hnl2) (fun t S h => h) ?_
    refine AWL.ygT rfl rfl rfl rfl (B rfl) (Yv.eql rfl (Eg rfl rfl id) (Eg rfl rfl id)) ?_
    refine AWL.y rfl rfl (B rfl) (Yv.pickAnd rfl (E rfl rfl) (Eg rfl rfl id)) ?_
    refine AWL.y rfl rfl (B rfl) (Yv.move rfl (E rfl rfl)) ?_
    refine AWL.ygF rfl rfl rfl rfl (B rfl) (Yv.move rfl (E rfl rfl)) ?_
    refine AWL.ygF rfl rfl rfl rfl (B rfl) (Yv.move rfl (E rfl rfl)) ?_
    refine AWL.ygF rfl rfl rfl rfl (B rfl) (Yv.eql rfl (Eg rfl rfl id) (Eg rfl rfl id)) ?_
    refine AWL.ygF rfl rfl rfl rfl (B rfl) (Yv.move rfl (Eg rfl rfl id)) ?_
    refine AWL.ygT rfl rfl rfl rfl (B rfl) (Yv.move rfl (E rfl rfl)) ?_
    refine AWL.ygT rfl rfl rfl rfl (B rfl) (Yv.eql rfl (Eg rfl rfl id) (E rfl rfl)) ?_
    refine AWL.ygF rfl rfl rfl rfl (B rfl) (Yv.pickAnd rfl (Eg rfl rfl id) (Eg rfl rfl id)) ?_
    refine AWL.ygF rfl rfl rfl rfl (B rfl) (Yv.move rfl (Eg rfl rfl id)) ?_
    refine AWL.ygT rfl rfl rfl rfl (B rfl) (Yv.move rfl (E rfl rfl)) ?_
    refine AWL.callPgT rfl rfl rfl rfl (B rfl) rfl ce_12 (E rfl rfl) (evsC (Eg rfl rfl id) evs0) (fun hg => check12 l hnl2) (fun t S h => h) ?_
    refine AWL.ygT rfl rfl rfl rfl (B rfl) (Yv.eql rfl (Eg rfl rfl id) (E rfl rfl)) ?_
    refine AWL.ygF rfl rfl rfl rfl (B rfl) (Yv.pickAnd rfl (Eg rfl rfl id) (Eg rfl rfl id)) ?_
    refine AWL.y rfl rfl (B rfl) (Yv.pickOr (t := .const (.bool true)) rfl (E rfl rfl) (Eg rfl rfl id)) ?_
    refine AWL.y rfl rfl (B rfl) (Yv.assign rfl (E rfl rfl)) ?_
    refine AWL.nil ?_
    refine AW.ret (retI (.tmp rfl .nil) ?_)
    show T.v (.bool _) = T.v (.bool true)
    rcases hq with q | ⟨q1, q2⟩
    · simp [q]
    · simp [q1, q2]
  try replace h0f := of_decide_eq_false h0f
  have hle : laidE l at_ = 0 := by simpa using h0f
  obtain ⟨hck, hat1, hat2⟩ := laidE_at hle
  have hplen := plc_len hle
  have hp0 := plc_get hle (Nat.zero_le _)
  have htot : ∀ k, k ≤ l.length → pre (sizesF l) k ≤ pre (sizesF l) l.length := fun k hk => pre_mono _ hk
  rw [resL_ok hle]
  refine AW.skip ?_
  refine AW.seq ?_
  refine AW.rseq ?_
  refine AWL.y rfl rfl (B rfl) (Yv.move rfl (E rfl rfl)) ?_
  refine AWL.y rfl rfl (B rfl) (Yv.lenSl rfl so_37 (B rfl) (E rfl rfl) len_zq) ?_
  refine AWL.y rfl rfl (B rfl) (Yv.move rfl (E rfl rfl)) ?_
  refine AWL.y rfl rfl (B rfl) (Yv.lenSl rfl so_22 (B rfl) (E rfl rfl) len_lines) ?_
  refine AWL.y rfl rfl (B rfl) (Yv.addN_i64 rfl (E rfl rfl) (E rfl rfl) (fun hg => by omega)) ?_
  refine AWL.y rfl rfl (B rfl) (Yv.neq rfl (E rfl rfl) (E rfl rfl)) ?_
  refine AWL.y rfl rfl (B rfl) (Yv.move rfl (E rfl rfl)) ?_
  refine AWL.ygF rfl rfl rfl rfl (B rfl) (Yv.move rfl (E rfl rfl)) ?_
  refine AWL.ygF rfl rfl rfl rfl (B rfl) (Yv.indexSl (j := 0) rfl ss_37 (B rfl) (E rfl rfl) (Eg rfl rfl id) (fun hg => ⟨rfl, by simp only [len_zq]; omega⟩)) ?_
  refine AWL.ygF rfl rfl rfl rfl (B rfl) (Yv.loadRp rfl ag_23 (Eg rfl rfl id) (fun hg => zq_get (by omega))) ?_
  refine AWL.ygF rfl rfl rfl rfl (B rfl) (Yv.move rfl (E rfl rfl)) ?_
  refine AWL.ygF rfl rfl rfl rfl (B rfl) (Yv.neq rfl (Eg rfl rfl id) (Eg rfl rfl id)) ?_
  refine AWL.y rfl rfl (B rfl) (Yv.pickOr (t := .const (.bool true)) rfl (E rfl rfl) (Eg rfl rfl id)) ?_
  refine AWL.y rfl rfl (B rfl) (Yv.move rfl (E rfl rfl)) ?_
  refine AWL.callPgF rfl rfl rfl rfl (B rfl) rfl ce_8 (E rfl rfl) evs0 (fun hg => known8) (fun t S h => h) ?_
  refine AWL.ygF rfl rfl rfl rfl (B rfl) (Yv.not rfl (Eg rfl rfl id)) ?_
  refine AWL.y rfl rfl (B rfl) (Yv.pickOr (t := .const (.bool true)) rfl (E rfl rfl) (Eg rfl rfl id)) ?_
  refine AWL.nil ?_
  refine AW.cond rfl (fun h1t => ?_) (fun h1f => ?_)
  ·
    try replace h1t := of_decide_eq_true h1t
    refine AW.rseq ?_
    refine AWL.y rfl rfl (B rfl) (Yv.assign rfl (E rfl rfl)) ?_
    refine AWL.nil ?_
    refine AW.ret (retI (.tmp rfl .nil) ?_)
    exfalso
    have hp00 : pre (sizesF l) 0 = 0 := rfl
    rw [hplen, hp0, hp00] at h1t
    simp at h1t
  try replace h1f := of_decide_eq_false h1f
  refine AW.skip ?_
  refine AW.rseq ?_
  refine AWL.y rfl rfl (B rfl) (Yv.assign rfl (E rfl rfl)) ?_
  refine AWL.nil ?_
  refine AW.seq ?_
  refine AW.rseq ?_
  refine AWL.y rfl rfl (B rfl) (Yv.assign rfl (E rfl rfl)) ?_
  refine AWL.nil ?_
  refine AW.block ?_
  refine AW.loop (fun (j : Nat) => [(0, true, linesT l), (1, true, .v (.int .u64 at_)), (5, true, .sl 1 ((plcL l at_).map zq)), (7, true, inssT (insL l at_)), (9, true, .v (.int .i64 ((cntK l j) : Int))), (10, true, .v (.int .i64 (j : Int)))]) (fun (j : Nat) => []) (fun (j : Nat) => j ≤ l.length) (fun (j : Nat) => l.length - j) 0 ?_ ?_ ?_ ?_
  · exact Nat.zero_le _
  · exact (Sub.cons rfl rfl (Sub.cons rfl rfl (Sub.cons rfl rfl (Sub.cons rfl rfl (Sub.cons rfl rfl (Sub.cons rfl rfl Sub.nil))))))
  · rfl
  ·
    intro j hinv
    have hkl := cntK_le l j
    refine AW.seq ?_
    refine AW.rseq ?_
    refine AWL.y rfl rfl (B rfl) (Yv.move rfl (E rfl rfl)) ?_
    refine AWL.y rfl rfl (B rfl) (Yv.move rfl (E rfl rfl)) ?_
    refine AWL.y rfl rfl (B rfl) (Yv.lenSl rfl so_22 (B rfl) (E rfl rfl) len_lines) ?_
    refine AWL.y rfl rfl (B rfl) (Yv.lss rfl (E rfl rfl) (E rfl rfl)) ?_
    refine AWL.nil ?_
    refine AW.cond rfl (fun h2t => ?_) (fun h2f => ?_)
    ·
      try replace h2t := of_decide_eq_true h2t
      have hpj := plc_get hle (show j ≤ l.length by omega)
      have hpj1 := plc_get hle (show j + 1 ≤ l.length by omega)
      have htj := htot j (by omega)
      have htj1 := htot (j + 1) (by omega)
      have hmn := pre_mono (sizesF l) (show j ≤ j + 1 by omega)
      refine AW.skip ?_
      refine AW.seq ?_
      refine AW.block ?_
      refine AW.seq ?_
      refine AW.rseq ?_
      refine AWL.y rfl rfl (B rfl) (Yv.move rfl (E rfl rfl)) ?_
      refine AWL.y rfl rfl (B rfl) (Yv.move rfl (E rfl rfl)) ?_
      refine AWL.y rfl rfl (B rfl) (Yv.indexSl rfl ss_22 (B rfl) (E rfl rfl) (E rfl rfl) (fun hg => ⟨rfl, (by first | omega | (simp only [len_lines, len_inss, len_zu, len_ints, len_u8s, len_zq]; omega))⟩)) ?_
      refine AWL.y rfl rfl (B rfl) (Yv.fieldRp rfl fo_32_0 (E rfl rfl)) ?_
      refine AWL.y rfl rfl (B rfl) (Yv.loadRp rfl ag_3 (E rfl rfl) (fun hg => line_at0 (by omega))) ?_
      refine AWL.y rfl rfl (B rfl) (Yv.eql rfl (E rfl rfl) (E rfl rfl)) ?_
      refine AWL.nil ?_
      refine AW.cond rfl (fun h3t => ?_) (fun h3f => ?_)
      ·
        try replace h3t := of_decide_eq_true h3t
        refine AW.seq ?_
        refine AW.rseqQ rfl (by kernel_rfl) ?_
        refine AWQ.y rfl rfl (B rfl) (Yv.move rfl (E rfl rfl)) ?_
        refine AWQ.y rfl rfl (B rfl) (Yv.move rfl (E rfl rfl)) ?_
        refine AWQ.y rfl rfl (B rfl) (Yv.addN_i64 rfl (E rfl rfl) (E rfl rfl) (fun hg => by omega)) ?_
        refine AWQ.y rfl rfl (B rfl) (Yv.indexSl (j := (j + 1)) rfl ss_37 (B rfl) (E rfl rfl) (E rfl rfl) (fun hg => ⟨by omega, by simp only [len_zq]; omega⟩)) ?_
        refine AWQ.y rfl rfl (B rfl) (Yv.loadRp rfl ag_23 (E rfl rfl) (fun hg => zq_get (by omega))) ?_
        refine AWQ.y rfl rfl (B rfl) (Yv.move rfl (E rfl rfl)) ?_
        refine AWQ.y rfl rfl (B rfl) (Yv.move rfl (E rfl rfl)) ?_
        refine AWQ.y rfl rfl (B rfl) (Yv.indexSl rfl ss_37 (B rfl) (E rfl rfl) (E rfl rfl) (fun hg => ⟨rfl, (by first | omega | (simp only [len_lines, len_inss, len_zu, len_ints, len_u8s, len_zq]; omega))⟩)) ?_
        refine AWQ.y rfl rfl (B rfl) (Yv.loadRp rfl ag_23 (E rfl rfl) (fun hg => zq_get (by omega))) ?_
        refine AWQ.y rfl rfl (B rfl) (Yv.neq rfl (E rfl rfl) (E rfl rfl)) ?_
        refine AWQ.nil ?_
        refine AW.cond rfl (fun h4t => ?_) (fun h4f => ?_)
        ·
          try replace h4t := of_decide_eq_true h4t
          refine AW.rseq ?_
          refine AWL.y rfl rfl (B rfl) (Yv.assign rfl (E rfl rfl)) ?_
          refine AWL.nil ?_
          refine AW.ret (retI (.tmp rfl .nil) ?_)
          exfalso
          have := label_size (show j < l.length by omega) h3t
          simp only [Bool.or_eq_true, Bool.and_eq_true, Bool.or_eq_false_iff, Bool.and_eq_false_iff, Bool.not_eq_true', Bool.not_eq_false', decide_eq_true_eq, decide_eq_false_iff_not, Decidable.not_not] at h4t
          omega
        try replace h4f := of_decide_eq_false h4f
        refine AW.skip ?_
        refine AW.exit ?_
        refine AW.region ?_
        refine AWL.y rfl rfl (B rfl) (Yv.move rfl (E rfl rfl)) ?_
        refine AWL.y rfl rfl (B rfl) (Yv.addN_i64 rfl (E rfl rfl) (E rfl rfl) (fun hg => by omega)) ?_
        refine AWL.y rfl rfl (B rfl) (Yv.assign rfl (E rfl rfl)) ?_
        refine AWL.nil ?_
        have hks := cntK_no (l := l) (j := j) (by omega) h3t
        refine ⟨j + 1, by omega, by omega, Sub.cons rfl rfl (Sub.cons rfl rfl (Sub.cons rfl rfl (Sub.cons rfl rfl (Sub.cons rfl (by rw [hks]) (Sub.cons rfl (by simp) Sub.nil))))), rfl⟩
      try replace h3f := of_decide_eq_false h3f
      obtain ⟨hkx, hAt⟩ := ins_reach f0 hle (show j < l.length by omega) h3f
      have hlen := hAt.len
      have he11 := encF_len ((insL l at_).getD (cntK l j) default)
      refine AW.skip ?_
      refine AW.seq ?_
      refine AW.rseq ?_
      refine AWL.y rfl rfl (B rfl) (Yv.move rfl (E rfl rfl)) ?_
      refine AWL.y rfl rfl (B rfl) (Yv.move rfl (E rfl rfl)) ?_
      refine AWL.y rfl rfl (B rfl) (Yv.lenSl rfl so_24 (B rfl) (E rfl rfl) len_inss) ?_
      refine AWL.y rfl rfl (B rfl) (Yv.eql rfl (E rfl rfl) (E rfl rfl)) ?_
      refine AWL.nil ?_
      refine AW.cond rfl (fun h5t => ?_) (fun h5f => ?_)
      ·
        try replace h5t := of_decide_eq_true h5t
        refine AW.rseq ?_
        refine AWL.y rfl rfl (B rfl) (Yv.assign rfl (E rfl rfl)) ?_
        refine AWL.nil ?_
        refine AW.ret (retI (.tmp rfl .nil) ?_)
        exfalso
        omega
      try replace h5f := of_decide_eq_false h5f
      refine AW.skip ?_
      refine AW.rseq ?_
      refine AWL.y rfl rfl (B rfl) (Yv.move rfl (E rfl rfl)) ?_
      refine AWL.y rfl rfl (B rfl) (Yv.move rfl (E rfl rfl)) ?_
      refine AWL.y rfl rfl (B rfl) (Yv.indexSl (j := (cntK l j)) rfl ss_24 (B rfl) (E rfl rfl) (E rfl rfl) (fun hg => ⟨rfl, by simp only [len_inss]; omega⟩)) ?_
      refine AWL.y rfl rfl (B rfl) (Yv.loadRpA rfl ag_30 (E rfl rfl) (fun hg => ins_get (by omega))) ?_
      refine AWL.callT rfl rfl (B rfl) rfl ce_19 (E rfl rfl) (evsC (E rfl rfl) evs0) (encode19_ ((insL l at_).getD (cntK l j) default)) ?_
      rintro t104 S104 rfl
      rw [show encE ((insL l at_).getD (cntK l j) default) = 0 from if_pos hAt.valid, show encT ((insL l at_).getD (cntK l j) default) = u8s (encF ((insL l at_).getD (cntK l j) default)) from if_pos hAt.valid]
      refine AWL.y rfl rfl (B rfl) (Yv.move rfl (E rfl rfl)) ?_
      refine AWL.y rfl rfl (B rfl) (Yv.extract rfl (E rfl rfl) rfl) ?_
      refine AWL.y rfl rfl (B rfl) (Yv.extract rfl (E rfl rfl) rfl) ?_
      refine AWL.y rfl rfl (B rfl) (Yv.assign rfl (E rfl rfl)) ?_
      refine AWL.y rfl rfl (B rfl) (Yv.assign rfl (E rfl rfl)) ?_
      refine AWL.nil ?_
      refine AW.seq ?_
      refine AW.rseqQ rfl (by kernel_rfl) ?_
      refine AWQ.y rfl rfl (B rfl) (Yv.move rfl (E rfl rfl)) ?_
      refine AWQ.y rfl rfl (B rfl) (Yv.neq rfl (E rfl rfl) (E rfl rfl)) ?_
      refine AWQ.y rfl rfl (B rfl) (Yv.move rfl (E rfl rfl)) ?_
      refine AWQ.ygF rfl rfl rfl rfl (B rfl) (Yv.move rfl (E rfl rfl)) ?_
      refine AWQ.ygF rfl rfl rfl rfl (B rfl) (Yv.move rfl (E rfl rfl)) ?_
      refine AWQ.ygF rfl rfl rfl rfl (B rfl) (Yv.addN_i64 rfl (Eg rfl rfl id) (E rfl rfl) (fun hg => by first | omega | (simp only [Bool.and_eq_true, Bool.or_eq_false_iff, Bool.not_eq_true', Bool.not_eq_false', decide_eq_true_eq, decide_eq_false_iff_not] at hg; omega))) ?_
      refine AWQ.ygF rfl rfl rfl rfl (B rfl) (Yv.indexSl (j := (j + 1)) rfl ss_37 (B rfl) (Eg rfl rfl id) (Eg rfl rfl id) (fun hg => ⟨by omega, by simp only [len_zq]; omega⟩)) ?_
      refine AWQ.ygF rfl rfl rfl rfl (B rfl) (Yv.loadRp rfl ag_23 (Eg rfl rfl id) (fun hg => zq_get (by omega))) ?_
      refine AWQ.ygF rfl rfl rfl rfl (B rfl) (Yv.move rfl (E rfl rfl)) ?_
      refine AWQ.ygF rfl rfl rfl rfl (B rfl) (Yv.move rfl (E rfl rfl)) ?_
      refine AWQ.ygF rfl rfl rfl rfl (B rfl) (Yv.indexSl rfl ss_37 (B rfl) (Eg rfl rfl id) (Eg rfl rfl id) (fun hg => ⟨rfl, (by first | omega | (simp only [len_lines, len_inss, len_zu, len_ints, len_u8s, len_zq]; omega) | (simp only [len_lines, len_inss, len_zu, len_ints, len_u8s, len_zq]; simp only [Bool.and_eq_true, Bool.or_eq_false_iff, Bool.not_eq_true', Bool.not_eq_false', decide_eq_true_eq, decide_eq_false_iff_not] at hg; omega))⟩)) ?_
      refine AWQ.ygF rfl rfl rfl rfl (B rfl) (Yv.loadRp rfl ag_23 (Eg rfl rfl id) (fun hg => zq_get (by omega))) ?_
      refine AWQ.ygF rfl rfl rfl rfl (B rfl) (Yv.subN_u64 rfl (Eg rfl rfl id) (Eg rfl rfl id) (fun hg => by first | omega | (simp only [Bool.and_eq_true, Bool.or_eq_false_iff, Bool.not_eq_true', Bool.not_eq_false', decide_eq_true_eq, decide_eq_false_iff_not] at hg; omega))) ?_
      refine AWQ.ygF rfl rfl rfl rfl (B rfl) (Yv.move rfl (E rfl rfl)) ?_
      refine AWQ.ygF rfl rfl rfl rfl (B rfl) (Yv.lenSl rfl so_40 (B rfl) (Eg rfl rfl id) len_u8s) ?_
      refine AWQ.ygF rfl rfl rfl rfl (B rfl) (Yv.convN_u64 rfl Try.underlying3 kd_23 (Eg rfl rfl id) (fun hg => by first | omega | (simp only [Bool.and_eq_true, Bool.or_eq_false_iff, Bool.not_eq_true', Bool.not_eq_false', decide_eq_true_eq, decide_eq_false_iff_not] at hg; omega))) ?_
      refine AWQ.ygF rfl rfl rfl rfl (B rfl) (Yv.neq rfl (Eg rfl rfl id) (Eg rfl rfl id)) ?_
      refine AWQ.y rfl rfl (B rfl) (Yv.pickOr (t := .const (.bool true)) rfl (E rfl rfl) (Eg rfl rfl id)) ?_
      refine AWQ.nil ?_
      refine AW.cond rfl (fun h6t => ?_) (fun h6f => ?_)
      ·
        try replace h6t := of_decide_eq_true h6t
        refine AW.rseq ?_
        refine AWL.y rfl rfl (B rfl) (Yv.assign rfl (E rfl rfl)) ?_
        refine AWL.nil ?_
        refine AW.ret (retI (.tmp rfl .nil) ?_)
        exfalso
        simp only [Bool.or_eq_true, Bool.and_eq_true, Bool.or_eq_false_iff, Bool.and_eq_false_iff, Bool.not_eq_true', Bool.not_eq_false', decide_eq_true_eq, decide_eq_false_iff_not, Decidable.not_not, not_true_eq_false, false_or] at h6t
        omega
      try replace h6f := of_decide_eq_false h6f
      refine AW.skip ?_
      refine AW.seq ?_
      refine AW.rseq ?_
      refine AWL.y rfl rfl (B rfl) (Yv.move rfl (E rfl rfl)) ?_
      refine AWL.y rfl rfl (B rfl) (Yv.move rfl (E rfl rfl)) ?_
      refine AWL.y rfl rfl (B rfl) (Yv.indexSl rfl ss_22 (B rfl) (E rfl rfl) (E rfl rfl) (fun hg => ⟨rfl, (by first | omega | (simp only [len_lines, len_inss, len_zu, len_ints, len_u8s, len_zq]; omega))⟩)) ?_
      refine AWL.y rfl rfl (B rfl) (Yv.fieldRp rfl fo_32_0 (E rfl rfl)) ?_
      refine AWL.y rfl rfl (B rfl) (Yv.loadRp rfl ag_3 (E rfl rfl) (fun hg => line_at0 (by omega))) ?_
      refine AWL.y rfl rfl (B rfl) (Yv.neq rfl (E rfl rfl) (E rfl rfl)) ?_
      refine AWL.nil ?_
      refine AW.cond rfl (fun h7t => ?_) (fun h7f => ?_)
      ·
        try replace h7t := of_decide_eq_true h7t
        have h7n : ¬ (l.getD j default).kind = 1 := by simpa using h7t
        obtain ⟨htl, htw⟩ := hAt.goes h7n
        have hpt := plc_get hle (show ((tgF l).getD j 0) ≤ l.length by omega)
        have htt := htot ((tgF l).getD j 0) (by omega)
        have him6 := hAt.imm6
        have himW := hAt.immW h7n
        refine AW.rseq ?_
        refine AWL.y rfl rfl (B rfl) (Yv.move rfl (E rfl rfl)) ?_
        refine AWL.y rfl rfl (B rfl) (Yv.move rfl (E rfl rfl)) ?_
        refine AWL.y rfl rfl (B rfl) (Yv.move rfl (E rfl rfl)) ?_
        refine AWL.y rfl rfl (B rfl) (Yv.indexSl rfl ss_22 (B rfl) (E rfl rfl) (E rfl rfl) (fun hg => ⟨rfl, (by first | omega | (simp only [len_lines, len_inss, len_zu, len_ints, len_u8s, len_zq]; omega))⟩)) ?_
        refine AWL.y rfl rfl (B rfl) (Yv.fieldRp rfl fo_32_2 (E rfl rfl)) ?_
        refine AWL.y rfl rfl (B rfl) (Yv.loadRp rfl ag_3 (E rfl rfl) (fun hg => line_at7 (by omega))) ?_
        refine AWL.callT rfl rfl (B rfl) rfl ce_20 (E rfl rfl) (evsC (E rfl rfl) (evsC (E rfl rfl) evs0)) (where20 l hnl2 (l.getD j default).l) ?_
        rintro t137 S137 rfl
        rw [htw]
        refine AWL.y rfl rfl (B rfl) (Yv.assign rfl (E rfl rfl)) ?_
        refine AWL.nil ?_
        refine AW.seq ?_
        refine AW.rseqQ rfl (by kernel_rfl) ?_
        refine AWQ.y rfl rfl (B rfl) (Yv.move rfl (E rfl rfl)) ?_
        refine AWQ.y rfl rfl (B rfl) (Yv.lss rfl (E rfl rfl) (E rfl rfl)) ?_
        refine AWQ.y rfl rfl (B rfl) (Yv.move rfl (E rfl rfl)) ?_
        refine AWQ.ygF rfl rfl rfl rfl (B rfl) (Yv.move rfl (E rfl rfl)) ?_
        refine AWQ.ygF rfl rfl rfl rfl (B rfl) (Yv.move rfl (E rfl rfl)) ?_
        refine AWQ.ygF rfl rfl rfl rfl (B rfl) (Yv.indexSl rfl ss_22 (B rfl) (Eg rfl rfl id) (Eg rfl rfl id) (fun hg => ⟨rfl, (by first | omega | (simp only [len_lines, len_inss, len_zu, len_ints, len_u8s, len_zq]; omega) | (simp only [len_lines, len_inss, len_zu, len_ints, len_u8s, len_zq]; simp only [Bool.and_eq_true, Bool.or_eq_false_iff, Bool.not_eq_true', Bool.not_eq_false', decide_eq_true_eq, decide_eq_false_iff_not] at hg; omega))⟩)) ?_
        refine AWQ.ygF rfl rfl rfl rfl (B rfl) (Yv.fieldRp rfl fo_32_0 (Eg rfl rfl id)) ?_
        refine AWQ.ygF rfl rfl rfl rfl (B rfl) (Yv.loadRp rfl ag_3 (Eg rfl rfl id) (fun hg => line_at0 (by omega))) ?_
        refine AWQ.ygF rfl rfl rfl rfl (B rfl) (Yv.eql rfl (Eg rfl rfl id) (E rfl rfl)) ?_
        refine AWQ.ygF rfl rfl rfl rfl (B rfl) (Yv.move rfl (Eg rfl rfl id)) ?_
        refine AWQ.ygT rfl rfl rfl rfl (B rfl) (Yv.move rfl (E rfl rfl)) ?_
        refine AWQ.ygT rfl rfl rfl rfl (B rfl) (Yv.move rfl (E rfl rfl)) ?_
        refine AWQ.ygT rfl rfl rfl rfl (B rfl) (Yv.indexSl (j := (cntK l j)) rfl ss_24 (B rfl) (Eg rfl rfl id) (Eg rfl rfl id) (fun hg => ⟨rfl, by simp only [len_inss]; omega⟩)) ?_
        refine AWQ.ygT rfl rfl rfl rfl (B rfl) (Yv.fieldRp rfl fo_30_5 (Eg rfl rfl id)) ?_
        refine AWQ.ygT rfl rfl rfl rfl (B rfl) (Yv.loadRp rfl ag_2 (Eg rfl rfl id) (fun hg => ins_at5 (by omega))) ?_
        refine AWQ.ygT rfl rfl rfl rfl (B rfl) (Yv.convN_u64 rfl Try.underlying2 kd_23 (Eg rfl rfl id) (fun hg => by first | omega | (simp only [Bool.and_eq_true, Bool.or_eq_false_iff, Bool.not_eq_true', Bool.not_eq_false', decide_eq_true_eq, decide_eq_false_iff_not] at hg; omega))) ?_
        refine AWQ.ygT rfl rfl rfl rfl (B rfl) (Yv.move rfl (E rfl rfl)) ?_
        refine AWQ.ygT rfl rfl rfl rfl (B rfl) (Yv.move rfl (E rfl rfl)) ?_
        refine AWQ.ygT rfl rfl rfl rfl (B rfl) (Yv.indexSl (j := ((tgF l).getD j 0)) rfl ss_37 (B rfl) (Eg rfl rfl id) (Eg rfl rfl id) (fun hg => ⟨rfl, by simp only [len_zq]; omega⟩)) ?_
        refine AWQ.ygT rfl rfl rfl rfl (B rfl) (Yv.loadRp rfl ag_23 (Eg rfl rfl id) (fun hg => zq_get (by omega))) ?_
        refine AWQ.ygT rfl rfl rfl rfl (B rfl) (Yv.neq rfl (Eg rfl rfl id) (Eg rfl rfl id)) ?_
        refine AWQ.ygF rfl rfl rfl rfl (B rfl) (Yv.pickAnd rfl (Eg rfl rfl id) (Eg rfl rfl id)) ?_
        refine AWQ.y rfl rfl (B rfl) (Yv.pickOr (t := .const (.bool true)) rfl (E rfl rfl) (Eg rfl rfl id)) ?_
        refine AWQ.y rfl rfl (B rfl) (Yv.move rfl (E rfl rfl)) ?_
        refine AWQ.ygF rfl rfl rfl rfl (B rfl) (Yv.move rfl (E rfl rfl)) ?_
        refine AWQ.ygF rfl rfl rfl rfl (B rfl) (Yv.move rfl (E rfl rfl)) ?_
        refine AWQ.ygF rfl rfl rfl rfl (B rfl) (Yv.indexSl rfl ss_22 (B rfl) (Eg rfl rfl id) (Eg rfl rfl id) (fun hg => ⟨rfl, (by first | omega | (simp only [len_lines, len_inss, len_zu, len_ints, len_u8s, len_zq]; omega) | (simp only [len_lines, len_inss, len_zu, len_ints, len_u8s, len_zq]; simp only [Bool.and_eq_true, Bool.or_eq_false_iff, Bool.not_eq_true', Bool.not_eq_false', decide_eq_true_eq, decide_eq_false_iff_not] at hg; omega))⟩)) ?_
        refine AWQ.ygF rfl rfl rfl rfl (B rfl) (Yv.fieldRp rfl fo_32_0 (Eg rfl rfl id)) ?_
        refine AWQ.ygF rfl rfl rfl rfl (B rfl) (Yv.loadRp rfl ag_3 (Eg rfl rfl id) (fun hg => line_at0 (by omega))) ?_
        refine AWQ.ygF rfl rfl rfl rfl (B rfl) (Yv.neq rfl (Eg rfl rfl id) (E rfl rfl)) ?_
        refine AWQ.ygF rfl rfl rfl rfl (B rfl) (Yv.move rfl (Eg rfl rfl id)) ?_
        refine AWQ.ygT rfl rfl rfl rfl (B rfl) (Yv.move rfl (E rfl rfl)) ?_
        refine AWQ.ygT rfl rfl rfl rfl (B rfl) (Yv.move rfl (E rfl rfl)) ?_
        refine AWQ.ygT rfl rfl rfl rfl (B rfl) (Yv.addN_i64 rfl (Eg rfl rfl id) (E rfl rfl) (fun hg => by first | omega | (simp only [Bool.and_eq_true, Bool.or_eq_false_iff, Bool.not_eq_true', Bool.not_eq_false', decide_eq_true_eq, decide_eq_false_iff_not] at hg; omega))) ?_
        refine AWQ.ygT rfl rfl rfl rfl (B rfl) (Yv.indexSl (j := (j + 1)) rfl ss_37 (B rfl) (Eg rfl rfl id) (Eg rfl rfl id) (fun hg => ⟨by omega, by simp only [len_zq]; omega⟩)) ?_
        refine AWQ.ygT rfl rfl rfl rfl (B rfl) (Yv.loadRp rfl ag_23 (Eg rfl rfl id) (fun hg => zq_get (by omega))) ?_
        refine AWQ.ygT rfl rfl rfl rfl (B rfl) (Yv.move rfl (E rfl rfl)) ?_
        refine AWQ.ygT rfl rfl rfl rfl (B rfl) (Yv.move rfl (E rfl rfl)) ?_
        refine AWQ.ygT rfl rfl rfl rfl (B rfl) (Yv.indexSl (j := (cntK l j)) rfl ss_24 (B rfl) (Eg rfl rfl id) (Eg rfl rfl id) (fun hg => ⟨rfl, by simp only [len_inss]; omega⟩)) ?_
        refine AWQ.ygT rfl rfl rfl rfl (B rfl) (Yv.fieldRp rfl fo_30_5 (Eg rfl rfl id)) ?_
        refine AWQ.ygT rfl rfl rfl rfl (B rfl) (Yv.loadRp rfl ag_2 (Eg rfl rfl id) (fun hg => ins_at5 (by omega))) ?_
        refine AWQ.ygT rfl rfl rfl rfl (B rfl) (Yv.conv rfl Try.underlying2 kd_23 (Eg rfl rfl id)) ?_
        refine AWQ.ygT rfl rfl rfl rfl (B rfl) (Yv.add rfl (Eg rfl rfl id) (Eg rfl rfl id)) ?_
        refine AWQ.ygT rfl rfl rfl rfl (B rfl) (Yv.move rfl (E rfl rfl)) ?_
        refine AWQ.ygT rfl rfl rfl rfl (B rfl) (Yv.move rfl (E rfl rfl)) ?_
        refine AWQ.ygT rfl rfl rfl rfl (B rfl) (Yv.indexSl (j := ((tgF l).getD j 0)) rfl ss_37 (B rfl) (Eg rfl rfl id) (Eg rfl rfl id) (fun hg => ⟨rfl, by simp only [len_zq]; omega⟩)) ?_
        refine AWQ.ygT rfl rfl rfl rfl (B rfl) (Yv.loadRp rfl ag_23 (Eg rfl rfl id) (fun hg => zq_get (by omega))) ?_
        refine AWQ.ygT rfl rfl rfl rfl (B rfl) (Yv.neq rfl (Eg rfl rfl id) (Eg rfl rfl id)) ?_
        refine AWQ.ygF rfl rfl rfl rfl (B rfl) (Yv.pickAnd rfl (Eg rfl rfl id) (Eg rfl rfl id)) ?_
        refine AWQ.y rfl rfl (B rfl) (Yv.pickOr (t := .const (.bool true)) rfl (E rfl rfl) (Eg rfl rfl id)) ?_
        refine AWQ.nil ?_
        refine AW.cond rfl (fun h8t => ?_) (fun h8f => ?_)
        ·
          try replace h8t := of_decide_eq_true h8t
          refine AW.rseq ?_
          refine AWL.y rfl rfl (B rfl) (Yv.assign rfl (E rfl rfl)) ?_
          refine AWL.nil ?_
          refine AW.ret (retI (.tmp rfl .nil) ?_)
          exfalso
          simp only [Bool.or_eq_true, Bool.and_eq_true, Bool.or_eq_false_iff, Bool.and_eq_false_iff, Bool.not_eq_true', Bool.not_eq_false', decide_eq_true_eq, decide_eq_false_iff_not, Decidable.not_not, IntKind.wrap_u64] at h8t
          omega
        try replace h8f := of_decide_eq_false h8f
        refine AW.skip ?_
        refine AW.rseq ?_
        refine AWL.y rfl rfl (B rfl) (Yv.move rfl (E rfl rfl)) ?_
        refine AWL.y rfl rfl (B rfl) (Yv.move rfl (E rfl rfl)) ?_
        refine AWL.y rfl rfl (B rfl) (Yv.indexSl (j := (cntK l j)) rfl ss_24 (B rfl) (E rfl rfl) (E rfl rfl) (fun hg => ⟨rfl, by simp only [len_inss]; omega⟩)) ?_
        refine AWL.y rfl rfl (B rfl) (Yv.fieldRp rfl fo_30_5 (E rfl rfl)) ?_
        refine AWL.y rfl rfl (B rfl) (Yv.loadRp rfl ag_2 (E rfl rfl) (fun hg => ins_at5 (by omega))) ?_
        refine AWL.y rfl rfl (B rfl) (Yv.assign rfl (E rfl rfl)) ?_
        refine AWL.nil ?_
        refine AW.mid (α := Unit) (fun _ => [(0, true, linesT l), (1, true, .v (.int .u64 at_)), (5, true, .sl 1 ((plcL l at_).map zq)), (7, true, inssT (insL l at_)), (9, true, .v (.int .i64 ((cntK l j) : Int))), (10, true, .v (.int .i64 (j : Int))), (14, true, .v (.int .i64 (if (((insL l at_).getD (cntK l j) default).imm) < 0 then (((insL l at_).getD (cntK l j) default).imm) + ((encF ((insL l at_).getD (cntK l j) default)).length : Int) - 2 else (((insL l at_).getD (cntK l j) default).imm))))]) (fun _ => []) (fun _ => True) ?_ ?_
        ·
          refine AW.rseq ?_
          refine AWL.y rfl rfl (B rfl) (Yv.move rfl (E rfl rfl)) ?_
          refine AWL.y rfl rfl (B rfl) (Yv.lss rfl (E rfl rfl) (E rfl rfl)) ?_
          refine AWL.nil ?_
          refine AW.cond rfl (fun h9t => ?_) (fun h9f => ?_)
          ·
            try replace h9t := of_decide_eq_true h9t
            refine AW.region ?_
            refine AWL.y rfl rfl (B rfl) (Yv.move rfl (E rfl rfl)) ?_
            refine AWL.y rfl rfl (B rfl) (Yv.move rfl (E rfl rfl)) ?_
            refine AWL.y rfl rfl (B rfl) (Yv.lenSl rfl so_40 (B rfl) (E rfl rfl) len_u8s) ?_
            refine AWL.y rfl rfl (B rfl) (Yv.addN_i64 rfl (E rfl rfl) (E rfl rfl) (fun hg => by omega)) ?_
            refine AWL.y rfl rfl (B rfl) (Yv.subN_i64 rfl (E rfl rfl) (E rfl rfl) (fun hg => by omega)) ?_
            refine AWL.y rfl rfl (B rfl) (Yv.assign rfl (E rfl rfl)) ?_
            refine AWL.nil ?_
            refine ⟨(), trivial, (Sub.cons rfl rfl (Sub.cons rfl rfl (Sub.cons rfl rfl (Sub.cons rfl rfl (Sub.cons rfl rfl (Sub.cons rfl rfl (Sub.cons rfl (by rw [if_pos h9t]) Sub.nil))))))), rfl⟩
          try replace h9f := of_decide_eq_false h9f
          refine AW.skip ?_
          refine ⟨(), trivial, (Sub.cons rfl rfl (Sub.cons rfl rfl (Sub.cons rfl rfl (Sub.cons rfl rfl (Sub.cons rfl rfl (Sub.cons rfl rfl (Sub.cons rfl (by rw [if_neg h9f]) Sub.nil))))))), rfl⟩
        ·
          rintro _ hmid
          refine AW.rseq ?_
          refine AWL.y rfl rfl (B rfl) (Yv.move rfl (E rfl rfl)) ?_
          refine AWL.y rfl rfl (B rfl) (Yv.move rfl (E rfl rfl)) ?_
          refine AWL.y rfl rfl (B rfl) (Yv.indexSl rfl ss_22 (B rfl) (E rfl rfl) (E rfl rfl) (fun hg => ⟨rfl, (by first | omega | (simp only [len_lines, len_inss, len_zu, len_ints, len_u8s, len_zq]; omega))⟩)) ?_
          refine AWL.y rfl rfl (B rfl) (Yv.fieldRp rfl fo_32_0 (E rfl rfl)) ?_
          refine AWL.y rfl rfl (B rfl) (Yv.loadRp rfl ag_3 (E rfl rfl) (fun hg => line_at0 (by omega))) ?_
          refine AWL.y rfl rfl (B rfl) (Yv.eql rfl (E rfl rfl) (E rfl rfl)) ?_
          refine AWL.y rfl rfl (B rfl) (Yv.move rfl (E rfl rfl)) ?_
          refine AWL.ygF rfl rfl rfl rfl (B rfl) (Yv.move rfl (E rfl rfl)) ?_
          refine AWL.ygF rfl rfl rfl rfl (B rfl) (Yv.move rfl (E rfl rfl)) ?_
          refine AWL.ygF rfl rfl rfl rfl (B rfl) (Yv.indexSl rfl ss_22 (B rfl) (Eg rfl rfl id) (Eg rfl rfl id) (fun hg => ⟨rfl, (by first | omega | (simp only [len_lines, len_inss, len_zu, len_ints, len_u8s, len_zq]; omega) | (simp only [len_lines, len_inss, len_zu, len_ints, len_u8s, len_zq]; simp only [Bool.and_eq_true, Bool.or_eq_false_iff, Bool.not_eq_true', Bool.not_eq_false', decide_eq_true_eq, decide_eq_false_iff_not] at hg; omega))⟩)) ?_
          refine AWL.ygF rfl rfl rfl rfl (B rfl) (Yv.fieldRp rfl fo_32_0 (Eg rfl rfl id)) ?_
          refine AWL.ygF rfl rfl rfl rfl (B rfl) (Yv.loadRp rfl ag_3 (Eg rfl rfl id) (fun hg => line_at0 (by omega))) ?_
          refine AWL.ygF rfl rfl rfl rfl (B rfl) (Yv.eql rfl (Eg rfl rfl id) (E rfl rfl)) ?_
          refine AWL.y rfl rfl (B rfl) (Yv.pickOr (t := .const (.bool true)) rfl (E rfl rfl) (Eg rfl rfl id)) ?_
          refine AWL.y rfl rfl (B rfl) (Yv.move rfl (E rfl rfl)) ?_
          refine AWL.ygT rfl rfl rfl rfl (B rfl) (Yv.move rfl (E rfl rfl)) ?_
          refine AWL.ygT rfl rfl rfl rfl (B rfl) (Yv.move rfl (E rfl rfl)) ?_
          refine AWL.ygT rfl rfl rfl rfl (B rfl) (Yv.indexSl (j := (cntK l j)) rfl ss_24 (B rfl) (Eg rfl rfl id) (Eg rfl rfl id) (fun hg => ⟨rfl, by simp only [len_inss]; omega⟩)) ?_
          refine AWL.ygT rfl rfl rfl rfl (B rfl) (Yv.fieldRp rfl fo_30_4 (Eg rfl rfl id)) ?_
          refine AWL.ygT rfl rfl rfl rfl (B rfl) (Yv.loadRp rfl ag_3 (Eg rfl rfl id) (fun hg => ins_at4 (by omega))) ?_
          refine AWL.ygT rfl rfl rfl rfl (B rfl) (Yv.eql rfl (Eg rfl rfl id) (E rfl rfl)) ?_
          refine AWL.y rfl rfl (B rfl) (Yv.pickAnd rfl (E rfl rfl) (Eg rfl rfl id)) ?_
          refine AWL.y rfl rfl (B rfl) (Yv.move rfl (E rfl rfl)) ?_
          refine AWL.ygT rfl rfl rfl rfl (B rfl) (Yv.move rfl (E rfl rfl)) ?_
          refine AWL.ygT rfl rfl rfl rfl (B rfl) (Yv.geq rfl (Eg rfl rfl id) (E rfl rfl)) ?_
          refine AWL.y rfl rfl (B rfl) (Yv.pickAnd rfl (E rfl rfl) (Eg rfl rfl id)) ?_
          refine AWL.y rfl rfl (B rfl) (Yv.move rfl (E rfl rfl)) ?_
          refine AWL.ygT rfl rfl rfl rfl (B rfl) (Yv.move rfl (E rfl rfl)) ?_
          refine AWL.ygT rfl rfl rfl rfl (B rfl) (Yv.leq rfl (Eg rfl rfl id) (E rfl rfl)) ?_
          refine AWL.y rfl rfl (B rfl) (Yv.pickAnd rfl (E rfl rfl) (Eg rfl rfl id)) ?_
          refine AWL.nil ?_
          refine AW.cond rfl (fun h10t => ?_) (fun h10f => ?_)
          ·
            try replace h10t := of_decide_eq_true h10t
            refine AW.rseq ?_
            refine AWL.y rfl rfl (B rfl) (Yv.assign rfl (E rfl rfl)) ?_
            refine AWL.nil ?_
            refine AW.ret (retI (.tmp rfl .nil) ?_)
            exfalso
            simp only [Bool.or_eq_true, Bool.and_eq_true, Bool.or_eq_false_iff, Bool.and_eq_false_iff, Bool.not_eq_true', Bool.not_eq_false', decide_eq_true_eq, decide_eq_false_iff_not, Decidable.not_not] at h10t
            obtain ⟨⟨⟨hjm, hs4⟩, h128⟩, h127⟩ := h10t
            have ho := hAt.size hjm hs4
            simp only [outF, Bool.or_eq_true, Bool.and_eq_true, Bool.or_eq_false_iff, Bool.and_eq_false_iff, Bool.not_eq_true', Bool.not_eq_false', decide_eq_true_eq, decide_eq_false_iff_not, Decidable.not_not] at ho
            omega
          try replace h10f := of_decide_eq_false h10f
          refine AW.skip ?_
          refine AW.region ?_
          refine AWL.y rfl rfl (B rfl) (Yv.move rfl (E rfl rfl)) ?_
          refine AWL.y rfl rfl (B rfl) (Yv.addN_i64 rfl (E rfl rfl) (E rfl rfl) (fun hg => by omega)) ?_
          refine AWL.y rfl rfl (B rfl) (Yv.assign rfl (E rfl rfl)) ?_
          refine AWL.nil ?_
          refine AW.region ?_
          refine AWL.y rfl rfl (B rfl) (Yv.move rfl (E rfl rfl)) ?_
          refine AWL.y rfl rfl (B rfl) (Yv.addN_i64 rfl (E rfl rfl) (E rfl rfl) (fun hg => by omega)) ?_
          refine AWL.y rfl rfl (B rfl) (Yv.assign rfl (E rfl rfl)) ?_
          refine AWL.nil ?_
          have hks := cntK_yes (l := l) (j := j) (by omega) h3f
          refine ⟨j + 1, by omega, by omega, Sub.cons rfl rfl (Sub.cons rfl rfl (Sub.cons rfl rfl (Sub.cons rfl rfl (Sub.cons rfl (by rw [hks]; rfl) (Sub.cons rfl (by simp) Sub.nil))))), rfl⟩
      try replace h7f := of_decide_eq_false h7f
      refine AW.skip ?_
      refine AW.region ?_
      refine AWL.y rfl rfl (B rfl) (Yv.move rfl (E rfl rfl)) ?_
      refine AWL.y rfl rfl (B rfl) (Yv.addN_i64 rfl (E rfl rfl) (E rfl rfl) (fun hg => by omega)) ?_
      refine AWL.y rfl rfl (B rfl) (Yv.assign rfl (E rfl rfl)) ?_
      refine AWL.nil ?_
      refine AW.region ?_
      refine AWL.y rfl rfl (B rfl) (Yv.move rfl (E rfl rfl)) ?_
      refine AWL.y rfl rfl (B rfl) (Yv.addN_i64 rfl (E rfl rfl) (E rfl rfl) (fun hg => by omega)) ?_
      refine AWL.y rfl rfl (B rfl) (Yv.assign rfl (E rfl rfl)) ?_
      refine AWL.nil ?_
      have hks := cntK_yes (l := l) (j := j) (by omega) h3f
      refine ⟨j + 1, by omega, by omega, Sub.cons rfl rfl (Sub.cons rfl rfl (Sub.cons rfl rfl (Sub.cons rfl rfl (Sub.cons rfl (by rw [hks]; rfl) (Sub.cons rfl (by simp) Sub.nil))))), rfl⟩
    try replace h2f := of_decide_eq_false h2f
    refine AW.exit ?_
    refine AW.rseq ?_
    refine AWL.y rfl rfl (B rfl) (Yv.move rfl (E rfl rfl)) ?_
    refine AWL.y rfl rfl (B rfl) (Yv.move rfl (E rfl rfl)) ?_
    refine AWL.y rfl rfl (B rfl) (Yv.lenSl rfl so_24 (B rfl) (E rfl rfl) len_inss) ?_
    refine AWL.y rfl rfl (B rfl) (Yv.eql rfl (E rfl rfl) (E rfl rfl)) ?_
    refine AWL.y rfl rfl (B rfl) (Yv.assign rfl (E rfl rfl)) ?_
    refine AWL.nil ?_
    refine AW.ret (retI (.tmp rfl .nil) ?_)
    show T.v (.bool _) = T.v (.bool true)
    obtain rfl : j = l.length := by omega
    rw [show (insL l at_).length = cntK l l.length from outN_cnt hck _ _ _ _ (Nat.le_refl _)]
    simp

end Go.Proofs.Ytabkedlmpaoloaa
