/-
  CONTRACTS of the laws of the elf seat; walked by program.
-/
import Derived.Test.YtckkcncgglfbbaaWk5
import Derived.Test.YtckkcncgglfbbaaLaw
namespace Go.Proofs.Ytckkcncgglfbbaa
open Go Go.RowKit
set_option linter.unusedVariables false

set_option maxHeartbeats 400000 in
theorem ElfApart7 (bs : List UInt8) (h2 : bs.length ≤ 1099511627776) :
    ACalls Try.prog 7 [u8s bs] [] (fun t S => t = .v (.bool true)) := by
  have hi := LoadF_okD h2
  obtain ⟨hi1, hi2, hi3, hi4⟩ := hi
  have hi := (⟨hi1, hi2, hi3, hi4⟩ : ImgOk ((LoadF bs).getD ⟨0, []⟩))
  refine ACalls.intro Try.func7 rfl Try.ntmps7 (Nat.le_of_ble_eq_true rfl) rfl fun X w0 => ?_
  refine AW.rseq ?_
  refine AWL.y rfl rfl (B rfl) (Yv.assign rfl (E rfl rfl)) ?_
  refine AWL.nil ?_
  refine AW.rseq ?_
  refine AWL.y rfl rfl (B rfl) (Yv.move rfl (E rfl rfl)) ?_
  refine AWL.callT rfl rfl (B rfl) rfl ce_16 (E rfl rfl) (evsC (E rfl rfl) evs0) (Load16 bs h2) ?_
  rintro t10 S10 rfl
  refine AWL.y rfl rfl (B rfl) (Yv.move rfl (E rfl rfl)) ?_
  refine AWL.y rfl rfl (B rfl) (Yv.extract rfl (E rfl rfl) rfl) ?_
  refine AWL.y rfl rfl (B rfl) (Yv.extract rfl (E rfl rfl) rfl) ?_
  refine AWL.allocOp rfl rfl (B rfl) rfl zc_25 (fun b3 => ?_)
  refine AWL.storeBox (i := 0) rfl rfl rfl ag_25 rfl (E rfl rfl) (E rfl rfl) rfl rfl (Nat.le_of_ble_eq_true rfl) ?_
  refine AWL.y rfl rfl (B rfl) (Yv.assign rfl (E rfl rfl)) ?_
  refine AWL.nil ?_
  refine AW.seq ?_
  refine AW.rseq ?_
  refine AWL.y rfl rfl (B rfl) (Yv.move rfl (E rfl rfl)) ?_
  refine AWL.y rfl rfl (B rfl) (Yv.neq rfl (E rfl rfl) (E rfl rfl)) ?_
  refine AWL.nil ?_
  refine AW.cond rfl (fun h0t => ?_) (fun h0f => ?_)
  ·
    try replace h0t := of_decide_eq_true h0t
    simp only [Bool.or_eq_true, Bool.and_eq_true, Bool.or_eq_false_iff, Bool.and_eq_false_iff, Bool.not_eq_true', Bool.not_eq_false', decide_eq_true_eq, decide_eq_false_iff_not, Decidable.not_not] at h0t
    have hn := LoadF_code_none h0t
    refine AW.rseq ?_
    refine AWL.y rfl rfl (B rfl) (Yv.fieldBox rfl fo_25_1 (E rfl rfl)) ?_
    refine AWL.y rfl rfl (B rfl) (Yv.loadBox rfl ag_23 (i := 0) rfl (E rfl rfl) rfl) ?_
    refine AWL.y rfl rfl (B rfl) (Yv.lenSl rfl so_23 (B rfl) (E rfl rfl) len_segs) ?_
    refine AWL.y rfl rfl (B rfl) (Yv.eql rfl (E rfl rfl) (E rfl rfl)) ?_
    refine AWL.y rfl rfl (B rfl) (Yv.move rfl (E rfl rfl)) ?_
    refine AWL.ygT rfl rfl rfl rfl (B rfl) (Yv.fieldBox rfl fo_25_0 (E rfl rfl)) ?_
    refine AWL.ygT rfl rfl rfl rfl (B rfl) (Yv.loadBox rfl ag_22 (i := 0) rfl (Eg rfl rfl id) rfl) ?_
    refine AWL.ygT rfl rfl rfl rfl (B rfl) (Yv.eql rfl (Eg rfl rfl id) (E rfl rfl)) ?_
    refine AWL.y rfl rfl (B rfl) (Yv.pickAnd rfl (E rfl rfl) (Eg rfl rfl id)) ?_
    refine AWL.y rfl rfl (B rfl) (Yv.move rfl (E rfl rfl)) ?_
    refine AWL.callPgT rfl rfl rfl rfl (B rfl) rfl ce_14 (E rfl rfl) evs0 (fun hg => known14) (fun t S h => h) ?_
    refine AWL.y rfl rfl (B rfl) (Yv.pickAnd rfl (E rfl rfl) (Eg rfl rfl id)) ?_
    refine AWL.y rfl rfl (B rfl) (Yv.assign rfl (E rfl rfl)) ?_
    refine AWL.nil ?_
    refine AW.ret (retI (.tmp rfl .nil) ?_)
    rw [hn]; rfl
  ·
    try replace h0f := of_decide_eq_false h0f
    simp only [Bool.or_eq_true, Bool.and_eq_true, Bool.or_eq_false_iff, Bool.and_eq_false_iff, Bool.not_eq_true', Bool.not_eq_false', decide_eq_true_eq, decide_eq_false_iff_not, Decidable.not_not] at h0f
    have hs := LoadF_code_some h0f
    obtain ⟨hs1, hs2⟩ := hs
    refine AW.skip ?_
    refine AW.rseq ?_
    refine AWL.y rfl rfl (B rfl) (Yv.assign rfl (E rfl rfl)) ?_
    refine AWL.nil ?_
    refine AW.seq ?_
    refine AW.rseq ?_
    refine AWL.y rfl rfl (B rfl) (Yv.assign rfl (E rfl rfl)) ?_
    refine AWL.nil ?_
    refine AW.block ?_
    refine AW.loop2 (fun (j : Nat) (e : Bool) => [(3, true, .v (.pointer (some ⟨b3, 0, none⟩))), (5, true, .v (.bool e)), (6, true, .v (.int .i64 (j : Int)))]) (fun (j : Nat) (e : Bool) => [.box b3 25 [.v (.int .u64 ((LoadF bs).getD ⟨0, []⟩).entry), .sl 4 (((LoadF bs).getD ⟨0, []⟩).segs.flatMap segCells)]]) (fun (j : Nat) (e : Bool) => j ≤ ((LoadF bs).getD ⟨0, []⟩).segs.length ∧ chk ((LoadF bs).getD ⟨0, []⟩).entry false (((LoadF bs).getD ⟨0, []⟩).segs.drop j) (if j = 0 then 0 else lastPage (((LoadF bs).getD ⟨0, []⟩).segs.getD (j - 1) default) + 1) e = true) (fun (j : Nat) (e : Bool) => ((LoadF bs).getD ⟨0, []⟩).segs.length - j) 0 false ?_ ?_ ?_ ?_
    · exact ⟨Nat.zero_le _, checked_chk hs2⟩
    · exact (Sub.cons rfl rfl (Sub.cons rfl rfl (Sub.cons rfl rfl Sub.nil)))
    · rfl
    ·
      intro j e hinv
      obtain ⟨hj, hchk⟩ := hinv
      refine AW.seq ?_
      refine AW.rseq ?_
      refine AWL.y rfl rfl (B rfl) (Yv.move rfl (E rfl rfl)) ?_
      refine AWL.y rfl rfl (B rfl) (Yv.fieldBox rfl fo_25_1 (E rfl rfl)) ?_
      refine AWL.y rfl rfl (B rfl) (Yv.loadBox rfl ag_23 (i := 0) rfl (E rfl rfl) rfl) ?_
      refine AWL.y rfl rfl (B rfl) (Yv.lenSl rfl so_23 (B rfl) (E rfl rfl) len_segs) ?_
      refine AWL.y rfl rfl (B rfl) (Yv.lss rfl (E rfl rfl) (E rfl rfl)) ?_
      refine AWL.nil ?_
      refine AW.cond rfl (fun h1t => ?_) (fun h1f => ?_)
      ·
        try replace h1t := of_decide_eq_true h1t
        have hsg := seg_ok hi (j := j) (by omega)
        obtain ⟨s1, s2, s3, s4, s5, s6, s7⟩ := hsg
        have hp := chk_in (checked_chk hs2) hi.2.2.2 _ (seg_mem (l := ((LoadF bs).getD ⟨0, []⟩).segs) (j := j - 1) (by omega))
        obtain ⟨p1, p2, p3, p4, p5, p6, p7⟩ := hp
        rw [drop_seg (show j < ((LoadF bs).getD ⟨0, []⟩).segs.length by omega), chk] at hchk
        have hb : badB false (((LoadF bs).getD ⟨0, []⟩).segs.getD j default) (if j = 0 then 0 else lastPage (((LoadF bs).getD ⟨0, []⟩).segs.getD (j - 1) default) + 1) = false := by
          cases hb : badB false (((LoadF bs).getD ⟨0, []⟩).segs.getD j default) (if j = 0 then 0 else lastPage (((LoadF bs).getD ⟨0, []⟩).segs.getD (j - 1) default) + 1) with
          | false => rfl
          | true => rw [hb] at hchk; cases hchk
        rw [hb] at hchk
        have hb2 := hb
        rw [← Bool.not_eq_true, bad_iff] at hb2
        refine AW.skip ?_
        refine AW.seq ?_
        refine AW.block ?_
        refine AW.rseq ?_
        refine AWL.y rfl rfl (B rfl) (Yv.fieldBox rfl fo_25_1 (E rfl rfl)) ?_
        refine AWL.y rfl rfl (B rfl) (Yv.loadBox rfl ag_23 (i := 0) rfl (E rfl rfl) rfl) ?_
        refine AWL.y rfl rfl (B rfl) (Yv.move rfl (E rfl rfl)) ?_
        refine AWL.y rfl rfl (B rfl) (Yv.indexSl rfl ss_23 (B rfl) (E rfl rfl) (E rfl rfl) (fun hg => ⟨rfl, (by first | omega | (simp only [len_u8s, len_segs]; omega))⟩)) ?_
        refine AWL.y rfl rfl (B rfl) (Yv.loadRpA rfl ag_42 (E rfl rfl) (fun hg => seg_get (by omega))) ?_
        refine AWL.allocOp rfl rfl (B rfl) rfl zc_42 (fun b7 => ?_)
        refine AWL.storeBox (i := 1) rfl rfl rfl ag_42 rfl (E rfl rfl) (E rfl rfl) rfl rfl (Nat.le_of_ble_eq_true rfl) ?_
        refine AWL.nil ?_
        refine AW.seq ?_
        refine AW.rseq ?_
        refine AWL.y rfl rfl (B rfl) (Yv.fieldBox rfl fo_42_1 (E rfl rfl)) ?_
        refine AWL.y rfl rfl (B rfl) (Yv.loadBox rfl ag_22 (i := 1) rfl (E rfl rfl) rfl) ?_
        refine AWL.y rfl rfl (B rfl) (Yv.eql rfl (E rfl rfl) (E rfl rfl)) ?_
        refine AWL.y rfl rfl (B rfl) (Yv.move rfl (E rfl rfl)) ?_
        refine AWL.ygF rfl rfl rfl rfl (B rfl) (Yv.fieldBox rfl fo_42_3 (E rfl rfl)) ?_
        refine AWL.ygF rfl rfl rfl rfl (B rfl) (Yv.loadBox rfl ag_27 (i := 1) rfl (Eg rfl rfl id) rfl) ?_
        refine AWL.ygF rfl rfl rfl rfl (B rfl) (Yv.lenSl rfl so_27 (B rfl) (Eg rfl rfl id) len_u8s) ?_
        refine AWL.ygF rfl rfl rfl rfl (B rfl) (Yv.convN_u64 rfl Try.underlying3 kd_22 (Eg rfl rfl id) (fun hg => by first | omega | (simp only [Bool.and_eq_true, Bool.or_eq_false_iff, Bool.not_eq_true', Bool.not_eq_false', decide_eq_true_eq, decide_eq_false_iff_not] at hg; omega))) ?_
        refine AWL.ygF rfl rfl rfl rfl (B rfl) (Yv.fieldBox rfl fo_42_1 (E rfl rfl)) ?_
        refine AWL.ygF rfl rfl rfl rfl (B rfl) (Yv.loadBox rfl ag_22 (i := 1) rfl (Eg rfl rfl id) rfl) ?_
        refine AWL.ygF rfl rfl rfl rfl (B rfl) (Yv.gtr rfl (Eg rfl rfl id) (Eg rfl rfl id)) ?_
        refine AWL.y rfl rfl (B rfl) (Yv.pickOr (t := .const (.bool true)) rfl (E rfl rfl) (Eg rfl rfl id)) ?_
        refine AWL.y rfl rfl (B rfl) (Yv.move rfl (E rfl rfl)) ?_
        refine AWL.ygF rfl rfl rfl rfl (B rfl) (Yv.fieldBox rfl fo_42_2 (E rfl rfl)) ?_
        refine AWL.ygF rfl rfl rfl rfl (B rfl) (Yv.loadBox rfl ag_3 (i := 1) rfl (Eg rfl rfl id) rfl) ?_
        refine AWL.ygF rfl rfl rfl rfl (B rfl) (Yv.lss rfl (Eg rfl rfl id) (E rfl rfl)) ?_
        refine AWL.y rfl rfl (B rfl) (Yv.pickOr (t := .const (.bool true)) rfl (E rfl rfl) (Eg rfl rfl id)) ?_
        refine AWL.y rfl rfl (B rfl) (Yv.move rfl (E rfl rfl)) ?_
        refine AWL.ygF rfl rfl rfl rfl (B rfl) (Yv.fieldBox rfl fo_42_2 (E rfl rfl)) ?_
        refine AWL.ygF rfl rfl rfl rfl (B rfl) (Yv.loadBox rfl ag_3 (i := 1) rfl (Eg rfl rfl id) rfl) ?_
        refine AWL.ygF rfl rfl rfl rfl (B rfl) (Yv.gtr rfl (Eg rfl rfl id) (E rfl rfl)) ?_
        refine AWL.y rfl rfl (B rfl) (Yv.pickOr (t := .const (.bool true)) rfl (E rfl rfl) (Eg rfl rfl id)) ?_
        refine AWL.nil ?_
        refine AW.cond rfl (fun h2t => ?_) (fun h2f => ?_)
        ·
          try replace h2t := of_decide_eq_true h2t
          simp only [Bool.or_eq_true, Bool.and_eq_true, Bool.or_eq_false_iff, Bool.and_eq_false_iff, Bool.not_eq_true', Bool.not_eq_false', decide_eq_true_eq, decide_eq_false_iff_not, Decidable.not_not] at h2t
          exact absurd hb2 (by omega)
        ·
          try replace h2f := of_decide_eq_false h2f
          simp only [Bool.or_eq_true, Bool.and_eq_true, Bool.or_eq_false_iff, Bool.and_eq_false_iff, Bool.not_eq_true', Bool.not_eq_false', decide_eq_true_eq, decide_eq_false_iff_not, Decidable.not_not] at h2f
          refine AW.skip ?_
          refine AW.rseq ?_
          refine AWL.y rfl rfl (B rfl) (Yv.move rfl (E rfl rfl)) ?_
          refine AWL.y rfl rfl (B rfl) (Yv.move rfl (E rfl rfl)) ?_
          refine AWL.ygF rfl rfl rfl rfl (B rfl) (Yv.fieldBox rfl fo_42_2 (E rfl rfl)) ?_
          refine AWL.ygF rfl rfl rfl rfl (B rfl) (Yv.loadBox rfl ag_3 (i := 1) rfl (Eg rfl rfl id) rfl) ?_
          refine AWL.ygF rfl rfl rfl rfl (B rfl) (Yv.remN rfl (Eg rfl rfl id) (E rfl rfl) (fun hg => by first | omega | (simp only [Bool.and_eq_true, Bool.or_eq_false_iff, Bool.not_eq_true', Bool.not_eq_false', decide_eq_true_eq, decide_eq_false_iff_not] at hg; omega))) ?_
          refine AWL.ygF rfl rfl rfl rfl (B rfl) (Yv.eql rfl (Eg rfl rfl id) (E rfl rfl)) ?_
          refine AWL.ygF rfl rfl rfl rfl (B rfl) (Yv.move rfl (Eg rfl rfl id)) ?_
          refine AWL.ygT rfl rfl rfl rfl (B rfl) (Yv.fieldBox rfl fo_25_0 (E rfl rfl)) ?_
          refine AWL.ygT rfl rfl rfl rfl (B rfl) (Yv.loadBox rfl ag_22 (i := 0) rfl (Eg rfl rfl id) rfl) ?_
          refine AWL.ygT rfl rfl rfl rfl (B rfl) (Yv.fieldBox rfl fo_42_0 (E rfl rfl)) ?_
          refine AWL.ygT rfl rfl rfl rfl (B rfl) (Yv.loadBox rfl ag_22 (i := 1) rfl (Eg rfl rfl id) rfl) ?_
          refine AWL.ygT rfl rfl rfl rfl (B rfl) (Yv.geq rfl (Eg rfl rfl id) (Eg rfl rfl id)) ?_
          refine AWL.ygF rfl rfl rfl rfl (B rfl) (Yv.pickAnd rfl (Eg rfl rfl id) (Eg rfl rfl id)) ?_
          refine AWL.ygF rfl rfl rfl rfl (B rfl) (Yv.move rfl (Eg rfl rfl id)) ?_
          refine AWL.ygT rfl rfl rfl rfl (B rfl) (Yv.fieldBox rfl fo_25_0 (E rfl rfl)) ?_
          refine AWL.ygT rfl rfl rfl rfl (B rfl) (Yv.loadBox rfl ag_22 (i := 0) rfl (Eg rfl rfl id) rfl) ?_
          refine AWL.ygT rfl rfl rfl rfl (B rfl) (Yv.fieldBox rfl fo_42_0 (E rfl rfl)) ?_
          refine AWL.ygT rfl rfl rfl rfl (B rfl) (Yv.loadBox rfl ag_22 (i := 1) rfl (Eg rfl rfl id) rfl) ?_
          refine AWL.ygT rfl rfl rfl rfl (B rfl) (Yv.subN_u64 rfl (Eg rfl rfl id) (Eg rfl rfl id) (fun hg => by first | omega | (simp only [Bool.and_eq_true, Bool.or_eq_false_iff, Bool.not_eq_true', Bool.not_eq_false', decide_eq_true_eq, decide_eq_false_iff_not] at hg; omega))) ?_
          refine AWL.ygT rfl rfl rfl rfl (B rfl) (Yv.fieldBox rfl fo_42_1 (E rfl rfl)) ?_
          refine AWL.ygT rfl rfl rfl rfl (B rfl) (Yv.loadBox rfl ag_22 (i := 1) rfl (Eg rfl rfl id) rfl) ?_
          refine AWL.ygT rfl rfl rfl rfl (B rfl) (Yv.lss rfl (Eg rfl rfl id) (Eg rfl rfl id)) ?_
          refine AWL.ygF rfl rfl rfl rfl (B rfl) (Yv.pickAnd rfl (Eg rfl rfl id) (Eg rfl rfl id)) ?_
          refine AWL.y rfl rfl (B rfl) (Yv.pickOr (t := .const (.bool true)) rfl (E rfl rfl) (Eg rfl rfl id)) ?_
          refine AWL.y rfl rfl (B rfl) (Yv.assign rfl (E rfl rfl)) ?_
          refine AWL.nil ?_
          refine AW.rseqQ rfl (by kernel_rfl) ?_
          refine AWQ.y rfl rfl (B rfl) (Yv.move rfl (E rfl rfl)) ?_
          refine AWQ.y rfl rfl (B rfl) (Yv.gtr rfl (E rfl rfl) (E rfl rfl)) ?_
          refine AWQ.y rfl rfl (B rfl) (Yv.move rfl (E rfl rfl)) ?_
          refine AWQ.ygT rfl rfl rfl rfl (B rfl) (Yv.fieldBox rfl fo_25_1 (E rfl rfl)) ?_
          refine AWQ.ygT rfl rfl rfl rfl (B rfl) (Yv.loadBox rfl ag_23 (i := 0) rfl (Eg rfl rfl id) rfl) ?_
          refine AWQ.ygT rfl rfl rfl rfl (B rfl) (Yv.move rfl (E rfl rfl)) ?_
          refine AWQ.ygT rfl rfl rfl rfl (B rfl) (Yv.subN_i64 rfl (Eg rfl rfl id) (E rfl rfl) (fun hg => by first | omega | (simp only [Bool.and_eq_true, Bool.or_eq_false_iff, Bool.not_eq_true', Bool.not_eq_false', decide_eq_true_eq, decide_eq_false_iff_not] at hg; omega))) ?_
          refine AWQ.ygT rfl rfl rfl rfl (B rfl) (Yv.indexSl (j := j - 1) rfl ss_23 (B rfl) (Eg rfl rfl id) (Eg rfl rfl id) (fun hg => ⟨by first | omega | (simp only [Bool.and_eq_true, Bool.true_and, decide_eq_true_eq, beq_true] at hg; omega), by simp only [len_segs]; omega⟩)) ?_
          refine AWQ.ygT rfl rfl rfl rfl (B rfl) (Yv.fieldRp rfl fo_42_0 (Eg rfl rfl id)) ?_
          refine AWQ.ygT rfl rfl rfl rfl (B rfl) (Yv.loadRp rfl ag_22 (Eg rfl rfl id) (fun hg => seg_f0 (by omega))) ?_
          refine AWQ.ygT rfl rfl rfl rfl (B rfl) (Yv.fieldBox rfl fo_25_1 (E rfl rfl)) ?_
          refine AWQ.ygT rfl rfl rfl rfl (B rfl) (Yv.loadBox rfl ag_23 (i := 0) rfl (Eg rfl rfl id) rfl) ?_
          refine AWQ.ygT rfl rfl rfl rfl (B rfl) (Yv.move rfl (E rfl rfl)) ?_
          refine AWQ.ygT rfl rfl rfl rfl (B rfl) (Yv.subN_i64 rfl (Eg rfl rfl id) (E rfl rfl) (fun hg => by first | omega | (simp only [Bool.and_eq_true, Bool.or_eq_false_iff, Bool.not_eq_true', Bool.not_eq_false', decide_eq_true_eq, decide_eq_false_iff_not] at hg; omega))) ?_
          refine AWQ.ygT rfl rfl rfl rfl (B rfl) (Yv.indexSl (j := j - 1) rfl ss_23 (B rfl) (Eg rfl rfl id) (Eg rfl rfl id) (fun hg => ⟨by first | omega | (simp only [Bool.and_eq_true, Bool.true_and, decide_eq_true_eq, beq_true] at hg; omega), by simp only [len_segs]; omega⟩)) ?_
          refine AWQ.ygT rfl rfl rfl rfl (B rfl) (Yv.fieldRp rfl fo_42_1 (Eg rfl rfl id)) ?_
          refine AWQ.ygT rfl rfl rfl rfl (B rfl) (Yv.loadRp rfl ag_22 (Eg rfl rfl id) (fun hg => seg_f1 (by omega))) ?_
          refine AWQ.ygT rfl rfl rfl rfl (B rfl) (Yv.addN_u64 rfl (Eg rfl rfl id) (Eg rfl rfl id) (fun hg => by first | omega | (simp only [Bool.and_eq_true, Bool.or_eq_false_iff, Bool.not_eq_true', Bool.not_eq_false', decide_eq_true_eq, decide_eq_false_iff_not] at hg; omega))) ?_
          refine AWQ.ygT rfl rfl rfl rfl (B rfl) (Yv.subN_u64 rfl (Eg rfl rfl id) (E rfl rfl) (fun hg => by first | omega | (simp only [Bool.and_eq_true, Bool.or_eq_false_iff, Bool.not_eq_true', Bool.not_eq_false', decide_eq_true_eq, decide_eq_false_iff_not] at hg; omega))) ?_
          refine AWQ.ygT rfl rfl rfl rfl (B rfl) (Yv.quoN_u64 rfl (Eg rfl rfl id) (E rfl rfl) (fun hg => by first | omega | (simp only [Bool.and_eq_true, Bool.or_eq_false_iff, Bool.not_eq_true', Bool.not_eq_false', decide_eq_true_eq, decide_eq_false_iff_not] at hg; omega))) ?_
          refine AWQ.ygT rfl rfl rfl rfl (B rfl) (Yv.fieldBox rfl fo_42_0 (E rfl rfl)) ?_
          refine AWQ.ygT rfl rfl rfl rfl (B rfl) (Yv.loadBox rfl ag_22 (i := 1) rfl (Eg rfl rfl id) rfl) ?_
          refine AWQ.ygT rfl rfl rfl rfl (B rfl) (Yv.quoN_u64 rfl (Eg rfl rfl id) (E rfl rfl) (fun hg => by first | omega | (simp only [Bool.and_eq_true, Bool.or_eq_false_iff, Bool.not_eq_true', Bool.not_eq_false', decide_eq_true_eq, decide_eq_false_iff_not] at hg; omega))) ?_
          refine AWQ.ygT rfl rfl rfl rfl (B rfl) (Yv.geq rfl (Eg rfl rfl id) (Eg rfl rfl id)) ?_
          refine AWQ.y rfl rfl (B rfl) (Yv.pickAnd rfl (E rfl rfl) (Eg rfl rfl id)) ?_
          refine AWQ.nil ?_
          refine AW.cond rfl (fun h3t => ?_) (fun h3f => ?_)
          ·
            try replace h3t := of_decide_eq_true h3t
            simp only [Bool.or_eq_true, Bool.and_eq_true, Bool.or_eq_false_iff, Bool.and_eq_false_iff, Bool.not_eq_true', Bool.not_eq_false', decide_eq_true_eq, decide_eq_false_iff_not, Decidable.not_not] at h3t
            exfalso
            rw [if_neg (by omega)] at hb2
            unfold lastPage at hb2
            omega
          ·
            try replace h3f := of_decide_eq_false h3f
            refine AW.skip ?_
            refine AW.dropAt 1 ?_
            refine AW.region ?_
            refine AWL.y rfl rfl (B rfl) (Yv.move rfl (E rfl rfl)) ?_
            refine AWL.y rfl rfl (B rfl) (Yv.addN_i64 rfl (E rfl rfl) (E rfl rfl) (fun hg => by omega)) ?_
            refine AWL.y rfl rfl (B rfl) (Yv.assign rfl (E rfl rfl)) ?_
            refine AWL.nil ?_
            refine ⟨j + 1, (e || runs ((LoadF bs).getD ⟨0, []⟩).entry (((LoadF bs).getD ⟨0, []⟩).segs.getD j default)), ⟨by omega, ?_⟩, by omega, ?_, rfl⟩
            · rw [if_neg (by omega), Nat.add_sub_cancel]
              exact hchk
            · exact (Sub.cons rfl rfl (Sub.cons rfl (congrArg (fun q => T.v (.bool q)) (by rw [runs_mod])) (Sub.cons rfl (by simp) Sub.nil)))
      ·
        try replace h1f := of_decide_eq_false h1f
        refine AW.exit ?_
        refine AW.rseq ?_
        refine AWL.y rfl rfl (B rfl) (Yv.move rfl (E rfl rfl)) ?_
        refine AWL.y rfl rfl (B rfl) (Yv.move rfl (E rfl rfl)) ?_
        refine AWL.callPgT rfl rfl rfl rfl (B rfl) rfl ce_14 (E rfl rfl) evs0 (fun hg => known14) (fun t S h => h) ?_
        refine AWL.y rfl rfl (B rfl) (Yv.pickAnd rfl (E rfl rfl) (Eg rfl rfl id)) ?_
        refine AWL.y rfl rfl (B rfl) (Yv.assign rfl (E rfl rfl)) ?_
        refine AWL.nil ?_
        refine AW.ret (retI (.tmp rfl .nil) ?_)
        rw [List.drop_of_length_le (by omega), chk] at hchk
        rw [hchk]; rfl

end Go.Proofs.Ytckkcncgglfbbaa
