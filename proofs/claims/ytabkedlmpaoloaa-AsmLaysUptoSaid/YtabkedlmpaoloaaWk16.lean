/-
  CONTRACTS of the document: which lines may be, their sizes; walked by program.
-/
import Derived.Test.YtabkedlmpaoloaaWk15
namespace Go.Proofs.Ytabkedlmpaoloaa
open Go Go.RowKit
set_option linter.unusedVariables false
set_option linter.unnecessarySimpa false
set_option linter.unusedSimpArgs false

set_option maxHeartbeats 2000000 in
theorem refCheck13 (l : List Line) (hl : l.length ≤ NL) :
    ACalls Try.prog 13 [linesT l] [] fun t_ S => t_ = .v (.int .i64 (checkF l)) := by
  have hnl : l.length ≤ 1099511627 := hl
  unfold NL at hl
  refine ACalls.intro Try.func13 rfl Try.ntmps13 (Nat.le_of_ble_eq_true rfl) rfl fun X w0 => ?_
  refine AW.rseq ?_
  refine AWL.y rfl rfl (B rfl) (Yv.assign rfl (E rfl rfl)) ?_
  refine AWL.nil ?_
  refine AW.seq ?_
  refine AW.rseq ?_
  refine AWL.y rfl rfl (B rfl) (Yv.assign rfl (E rfl rfl)) ?_
  refine AWL.nil ?_
  refine AW.block ?_
  refine AW.loop (fun (j : Nat) => [(0, true, linesT l), (3, true, .v (.int .i64 (j : Int)))]) (fun (j : Nat) => []) (fun (j : Nat) => j ≤ l.length ∧ ∀ i, i < j → lineErr (l.getD i default) = 0) (fun (j : Nat) => l.length - j) 0 ?_ ?_ ?_ ?_
  · exact ⟨Nat.zero_le _, fun i hi => by omega⟩
  · exact (Sub.cons rfl rfl (Sub.cons rfl rfl Sub.nil))
  · rfl
  ·
   intro j hinv
   obtain ⟨hj, hpre⟩ := hinv
   refine AW.seq ?_
   refine AW.rseq ?_
   refine AWL.y rfl rfl (B rfl) (Yv.move rfl (E rfl rfl)) ?_
   refine AWL.y rfl rfl (B rfl) (Yv.move rfl (E rfl rfl)) ?_
   refine AWL.y rfl rfl (B rfl) (Yv.lenSl rfl so_22 (B rfl) (E rfl rfl) len_lines) ?_
   refine AWL.y rfl rfl (B rfl) (Yv.lss rfl (E rfl rfl) (E rfl rfl)) ?_
   refine AWL.nil ?_
   refine AW.cond rfl (fun h0t => ?_) (fun h0f => ?_)
   ·
    try replace h0t := of_decide_eq_true h0t
    refine AW.skip ?_
    refine AW.seq ?_
    refine AW.block ?_
    refine AW.rseq ?_
    refine AWL.y rfl rfl (B rfl) (Yv.move rfl (E rfl rfl)) ?_
    refine AWL.y rfl rfl (B rfl) (Yv.move rfl (E rfl rfl)) ?_
    refine AWL.y rfl rfl (B rfl) (Yv.indexSl rfl ss_22 (B rfl) (E rfl rfl) (E rfl rfl) (fun hg => ⟨rfl, (by first | omega | (simp only [len_lines, len_inss, len_zu, len_ints, len_u8s, len_zq, len_forms]; omega))⟩)) ?_
    refine AWL.y rfl rfl (B rfl) (Yv.loadRpA rfl ag_32 (E rfl rfl) (fun hg => line_get (by omega))) ?_
    refine AWL.allocOp rfl rfl (B rfl) rfl zc_32 (fun b4 => ?_)
    refine AWL.storeBox (i := 0) rfl rfl rfl ag_32 rfl (E rfl rfl) (E rfl rfl) rfl rfl (Nat.le_of_ble_eq_true rfl) ?_
    refine AWL.nil ?_
    refine AW.seq ?_
    refine AW.rseq ?_
    refine AWL.y rfl rfl (B rfl) (Yv.fieldBox rfl fo_32_0 (E rfl rfl)) ?_
    refine AWL.y rfl rfl (B rfl) (Yv.loadBox rfl ag_3 (i := 0) rfl (E rfl rfl) rfl) ?_
    refine AWL.y rfl rfl (B rfl) (Yv.lss rfl (E rfl rfl) (E rfl rfl)) ?_
    refine AWL.y rfl rfl (B rfl) (Yv.move rfl (E rfl rfl)) ?_
    refine AWL.ygF rfl rfl rfl rfl (B rfl) (Yv.fieldBox rfl fo_32_0 (E rfl rfl)) ?_
    refine AWL.ygF rfl rfl rfl rfl (B rfl) (Yv.loadBox rfl ag_3 (i := 0) rfl (Eg rfl rfl id) rfl) ?_
    refine AWL.ygF rfl rfl rfl rfl (B rfl) (Yv.gtr rfl (Eg rfl rfl id) (E rfl rfl)) ?_
    refine AWL.y rfl rfl (B rfl) (Yv.pickOr (t := .const (.bool true)) rfl (E rfl rfl) (Eg rfl rfl id)) ?_
    refine AWL.y rfl rfl (B rfl) (Yv.move rfl (E rfl rfl)) ?_
    refine AWL.ygF rfl rfl rfl rfl (B rfl) (Yv.fieldBox rfl fo_32_0 (E rfl rfl)) ?_
    refine AWL.ygF rfl rfl rfl rfl (B rfl) (Yv.loadBox rfl ag_3 (i := 0) rfl (Eg rfl rfl id) rfl) ?_
    refine AWL.ygF rfl rfl rfl rfl (B rfl) (Yv.eql rfl (Eg rfl rfl id) (E rfl rfl)) ?_
    refine AWL.ygF rfl rfl rfl rfl (B rfl) (Yv.move rfl (Eg rfl rfl id)) ?_
    refine AWL.ygT rfl rfl rfl rfl (B rfl) (Yv.fieldBox rfl fo_32_3 (E rfl rfl)) ?_
    refine AWL.ygT rfl rfl rfl rfl (B rfl) (Yv.loadBox rfl ag_3 (i := 0) rfl (Eg rfl rfl id) rfl) ?_
    refine AWL.ygT rfl rfl rfl rfl (B rfl) (Yv.lss rfl (Eg rfl rfl id) (E rfl rfl)) ?_
    refine AWL.ygT rfl rfl rfl rfl (B rfl) (Yv.move rfl (Eg rfl rfl id)) ?_
    refine AWL.ygF rfl rfl rfl rfl (B rfl) (Yv.fieldBox rfl fo_32_3 (E rfl rfl)) ?_
    refine AWL.ygF rfl rfl rfl rfl (B rfl) (Yv.loadBox rfl ag_3 (i := 0) rfl (Eg rfl rfl id) rfl) ?_
    refine AWL.ygF rfl rfl rfl rfl (B rfl) (Yv.gtr rfl (Eg rfl rfl id) (E rfl rfl)) ?_
    refine AWL.ygT rfl rfl rfl rfl (B rfl) (Yv.pickOr (t := .const (.bool true)) rfl (Eg rfl rfl id) (Eg rfl rfl id)) ?_
    refine AWL.ygF rfl rfl rfl rfl (B rfl) (Yv.pickAnd rfl (Eg rfl rfl id) (Eg rfl rfl id)) ?_
    refine AWL.y rfl rfl (B rfl) (Yv.pickOr (t := .const (.bool true)) rfl (E rfl rfl) (Eg rfl rfl id)) ?_
    refine AWL.y rfl rfl (B rfl) (Yv.move rfl (E rfl rfl)) ?_
    refine AWL.ygF rfl rfl rfl rfl (B rfl) (Yv.fieldBox rfl fo_32_0 (E rfl rfl)) ?_
    refine AWL.ygF rfl rfl rfl rfl (B rfl) (Yv.loadBox rfl ag_3 (i := 0) rfl (Eg rfl rfl id) rfl) ?_
    refine AWL.ygF rfl rfl rfl rfl (B rfl) (Yv.eql rfl (Eg rfl rfl id) (E rfl rfl)) ?_
    refine AWL.ygF rfl rfl rfl rfl (B rfl) (Yv.move rfl (Eg rfl rfl id)) ?_
    refine AWL.ygT rfl rfl rfl rfl (B rfl) (Yv.fieldBox rfl fo_32_4 (E rfl rfl)) ?_
    refine AWL.ygT rfl rfl rfl rfl (B rfl) (Yv.loadBox rfl ag_3 (i := 0) rfl (Eg rfl rfl id) rfl) ?_
    refine AWL.ygT rfl rfl rfl rfl (B rfl) (Yv.lss rfl (Eg rfl rfl id) (E rfl rfl)) ?_
    refine AWL.ygT rfl rfl rfl rfl (B rfl) (Yv.move rfl (Eg rfl rfl id)) ?_
    refine AWL.ygF rfl rfl rfl rfl (B rfl) (Yv.fieldBox rfl fo_32_4 (E rfl rfl)) ?_
    refine AWL.ygF rfl rfl rfl rfl (B rfl) (Yv.loadBox rfl ag_3 (i := 0) rfl (Eg rfl rfl id) rfl) ?_
    refine AWL.ygF rfl rfl rfl rfl (B rfl) (Yv.gtr rfl (Eg rfl rfl id) (E rfl rfl)) ?_
    refine AWL.ygT rfl rfl rfl rfl (B rfl) (Yv.pickOr (t := .const (.bool true)) rfl (Eg rfl rfl id) (Eg rfl rfl id)) ?_
    refine AWL.ygF rfl rfl rfl rfl (B rfl) (Yv.pickAnd rfl (Eg rfl rfl id) (Eg rfl rfl id)) ?_
    refine AWL.y rfl rfl (B rfl) (Yv.pickOr (t := .const (.bool true)) rfl (E rfl rfl) (Eg rfl rfl id)) ?_
    refine AWL.nil ?_
    refine AW.cond rfl (fun h1t => ?_) (fun h1f => ?_)
    ·
     try replace h1t := of_decide_eq_true h1t
     refine AW.rseq ?_
     refine AWL.y rfl rfl (B rfl) (Yv.assign rfl (E rfl rfl)) ?_
     refine AWL.nil ?_
     refine AW.ret (retI (.tmp rfl .nil) ?_)
     have he : lineErr (l.getD j default) = 1 := by rw [lineErr, if_pos (show badArg (l.getD j default) = true from h1t)]
     rw [checkF_line (by omega) hpre (by rw [he]; decide), he]
     rfl
    try replace h1f := of_decide_eq_false h1f
    refine AW.skip ?_
    refine AW.rseq ?_
    refine AWL.y rfl rfl (B rfl) (Yv.fieldBox rfl fo_32_1 (E rfl rfl)) ?_
    refine AWL.y rfl rfl (B rfl) (Yv.loadBoxA rfl ag_30 (i := 0) rfl (E rfl rfl) rfl rfl) ?_
    refine AWL.callP rfl rfl (B rfl) rfl ce_29 (E rfl rfl) (evsC (E rfl rfl) evs0) (refValid29 (l.getD j default).ins) (fun t S h => h) ?_
    refine AWL.y rfl rfl (B rfl) (Yv.assign rfl (E rfl rfl)) ?_
    refine AWL.nil ?_
    refine AW.rseq ?_
    refine AWL.y rfl rfl (B rfl) (Yv.fieldBox rfl fo_32_0 (E rfl rfl)) ?_
    refine AWL.y rfl rfl (B rfl) (Yv.loadBox rfl ag_3 (i := 0) rfl (E rfl rfl) rfl) ?_
    refine AWL.y rfl rfl (B rfl) (Yv.eql rfl (E rfl rfl) (E rfl rfl)) ?_
    refine AWL.y rfl rfl (B rfl) (Yv.move rfl (E rfl rfl)) ?_
    refine AWL.ygT rfl rfl rfl rfl (B rfl) (Yv.move rfl (E rfl rfl)) ?_
    refine AWL.ygT rfl rfl rfl rfl (B rfl) (Yv.not rfl (Eg rfl rfl id)) ?_
    refine AWL.y rfl rfl (B rfl) (Yv.pickAnd rfl (E rfl rfl) (Eg rfl rfl id)) ?_
    refine AWL.nil ?_
    refine AW.cond rfl (fun h2t => ?_) (fun h2f => ?_)
    ·
     try replace h2t := of_decide_eq_true h2t
     refine AW.rseq ?_
     refine AWL.y rfl rfl (B rfl) (Yv.assign rfl (E rfl rfl)) ?_
     refine AWL.nil ?_
     refine AW.ret (retI (.tmp rfl .nil) ?_)
     have he := lineErr_ins h1f h2t
     rw [checkF_line (by omega) hpre (by rw [he]; decide), he]
     rfl
    try replace h2f := of_decide_eq_false h2f
    have hline := lineErr_ok h1f h2f
    refine AW.skip ?_
    refine AW.dropAt 0 ?_
    refine AW.region ?_
    refine AWL.y rfl rfl (B rfl) (Yv.move rfl (E rfl rfl)) ?_
    refine AWL.y rfl rfl (B rfl) (Yv.addN_i64 rfl (E rfl rfl) (E rfl rfl) (fun hg => by omega)) ?_
    refine AWL.y rfl rfl (B rfl) (Yv.assign rfl (E rfl rfl)) ?_
    refine AWL.nil ?_
    refine ⟨j + 1, ⟨by omega, fun i hi => ?_⟩, by omega, Sub.cons rfl rfl (Sub.cons rfl (by simp) Sub.nil), rfl⟩
    rcases Nat.lt_or_ge i j with h | h
    · exact hpre i h
    · rw [show i = j by omega]; exact hline
   try replace h0f := of_decide_eq_false h0f
   refine AW.exit ?_
   refine AW.seq ?_
   obtain rfl : j = l.length := by omega
   refine AW.rseq ?_
   refine AWL.y rfl rfl (B rfl) (Yv.assign rfl (E rfl rfl)) ?_
   refine AWL.nil ?_
   refine AW.block ?_
   refine AW.loop (fun (j : Nat) => [(0, true, linesT l), (6, true, .v (.int .i64 (j : Int)))]) (fun (j : Nat) => []) (fun (j : Nat) => j ≤ l.length ∧ ∀ i, i < j → labR l i = false) (fun (j : Nat) => l.length - j) 0 ?_ ?_ ?_ ?_
   · exact ⟨Nat.zero_le _, fun i hi => by omega⟩
   · exact (Sub.cons rfl rfl (Sub.cons rfl rfl Sub.nil))
   · rfl
   ·
    intro j hinv
    obtain ⟨hj2, hlab⟩ := hinv
    refine AW.seq ?_
    refine AW.rseq ?_
    refine AWL.y rfl rfl (B rfl) (Yv.move rfl (E rfl rfl)) ?_
    refine AWL.y rfl rfl (B rfl) (Yv.move rfl (E rfl rfl)) ?_
    refine AWL.y rfl rfl (B rfl) (Yv.lenSl rfl so_22 (B rfl) (E rfl rfl) len_lines) ?_
    refine AWL.y rfl rfl (B rfl) (Yv.lss rfl (E rfl rfl) (E rfl rfl)) ?_
    refine AWL.nil ?_
    refine AW.cond rfl (fun h3t => ?_) (fun h3f => ?_)
    ·
     try replace h3t := of_decide_eq_true h3t
     refine AW.skip ?_
     refine AW.seq ?_
     refine AW.block ?_
     refine AW.rseq ?_
     refine AWL.y rfl rfl (B rfl) (Yv.move rfl (E rfl rfl)) ?_
     refine AWL.y rfl rfl (B rfl) (Yv.move rfl (E rfl rfl)) ?_
     refine AWL.y rfl rfl (B rfl) (Yv.move rfl (E rfl rfl)) ?_
     refine AWL.y rfl rfl (B rfl) (Yv.indexSl rfl ss_22 (B rfl) (E rfl rfl) (E rfl rfl) (fun hg => ⟨rfl, (by first | omega | (simp only [len_lines, len_inss, len_zu, len_ints, len_u8s, len_zq, len_forms]; omega))⟩)) ?_
     refine AWL.y rfl rfl (B rfl) (Yv.fieldRp rfl fo_32_2 (E rfl rfl)) ?_
     refine AWL.y rfl rfl (B rfl) (Yv.loadRp rfl ag_3 (E rfl rfl) (fun hg => line_at7 (by omega))) ?_
     refine AWL.callP rfl rfl (B rfl) rfl ce_20 (E rfl rfl) (evsC (E rfl rfl) (evsC (E rfl rfl) evs0)) (where20 l (by unfold NL; omega) (l.getD j default).l) (fun t S h => h) ?_
     refine AWL.y rfl rfl (B rfl) (Yv.assign rfl (E rfl rfl)) ?_
     refine AWL.nil ?_
     refine AW.rseq ?_
     refine AWL.y rfl rfl (B rfl) (Yv.move rfl (E rfl rfl)) ?_
     refine AWL.y rfl rfl (B rfl) (Yv.move rfl (E rfl rfl)) ?_
     refine AWL.y rfl rfl (B rfl) (Yv.indexSl rfl ss_22 (B rfl) (E rfl rfl) (E rfl rfl) (fun hg => ⟨rfl, (by first | omega | (simp only [len_lines, len_inss, len_zu, len_ints, len_u8s, len_zq, len_forms]; omega))⟩)) ?_
     refine AWL.y rfl rfl (B rfl) (Yv.fieldRp rfl fo_32_0 (E rfl rfl)) ?_
     refine AWL.y rfl rfl (B rfl) (Yv.loadRp rfl ag_3 (E rfl rfl) (fun hg => line_at0 (by omega))) ?_
     refine AWL.callP rfl rfl (B rfl) rfl ce_30 (E rfl rfl) (evsC (E rfl rfl) evs0) (refgoes30 (l.getD j default).kind) (fun t S h => h) ?_
     refine AWL.y rfl rfl (B rfl) (Yv.assign rfl (E rfl rfl)) ?_
     refine AWL.nil ?_
     refine AW.rseq ?_
     refine AWL.y rfl rfl (B rfl) (Yv.move rfl (E rfl rfl)) ?_
     refine AWL.y rfl rfl (B rfl) (Yv.move rfl (E rfl rfl)) ?_
     refine AWL.y rfl rfl (B rfl) (Yv.indexSl rfl ss_22 (B rfl) (E rfl rfl) (E rfl rfl) (fun hg => ⟨rfl, (by first | omega | (simp only [len_lines, len_inss, len_zu, len_ints, len_u8s, len_zq, len_forms]; omega))⟩)) ?_
     refine AWL.y rfl rfl (B rfl) (Yv.fieldRp rfl fo_32_0 (E rfl rfl)) ?_
     refine AWL.y rfl rfl (B rfl) (Yv.loadRp rfl ag_3 (E rfl rfl) (fun hg => line_at0 (by omega))) ?_
     refine AWL.y rfl rfl (B rfl) (Yv.eql rfl (E rfl rfl) (E rfl rfl)) ?_
     refine AWL.y rfl rfl (B rfl) (Yv.move rfl (E rfl rfl)) ?_
     refine AWL.ygT rfl rfl rfl rfl (B rfl) (Yv.move rfl (E rfl rfl)) ?_
     refine AWL.ygT rfl rfl rfl rfl (B rfl) (Yv.move rfl (E rfl rfl)) ?_
     refine AWL.ygT rfl rfl rfl rfl (B rfl) (Yv.neq rfl (Eg rfl rfl id) (Eg rfl rfl id)) ?_
     refine AWL.y rfl rfl (B rfl) (Yv.pickAnd rfl (E rfl rfl) (Eg rfl rfl id)) ?_
     refine AWL.y rfl rfl (B rfl) (Yv.move rfl (E rfl rfl)) ?_
     refine AWL.ygF rfl rfl rfl rfl (B rfl) (Yv.move rfl (E rfl rfl)) ?_
     refine AWL.ygF rfl rfl rfl rfl (B rfl) (Yv.move rfl (Eg rfl rfl id)) ?_
     refine AWL.ygT rfl rfl rfl rfl (B rfl) (Yv.move rfl (E rfl rfl)) ?_
     refine AWL.ygT rfl rfl rfl rfl (B rfl) (Yv.lss rfl (Eg rfl rfl id) (E rfl rfl)) ?_
     refine AWL.ygF rfl rfl rfl rfl (B rfl) (Yv.pickAnd rfl (Eg rfl rfl id) (Eg rfl rfl id)) ?_
     refine AWL.y rfl rfl (B rfl) (Yv.pickOr (t := .const (.bool true)) rfl (E rfl rfl) (Eg rfl rfl id)) ?_
     refine AWL.nil ?_
     refine AW.cond rfl (fun h4t => ?_) (fun h4f => ?_)
     ·
      try replace h4t := of_decide_eq_true h4t
      have hlr : labR l j = true := h4t
      refine AW.rseq ?_
      refine AWL.y rfl rfl (B rfl) (Yv.assign rfl (E rfl rfl)) ?_
      refine AWL.nil ?_
      refine AW.ret (retI (.tmp rfl .nil) ?_)
      rw [checkF_lab hpre (show j < l.length by omega) (labR_bad (by omega) hlr)]
      rfl
     try replace h4f := of_decide_eq_false h4f
     have hlr : labR l j = false := h4f
     refine AW.skip ?_
     refine AW.region ?_
     refine AWL.y rfl rfl (B rfl) (Yv.move rfl (E rfl rfl)) ?_
     refine AWL.y rfl rfl (B rfl) (Yv.addN_i64 rfl (E rfl rfl) (E rfl rfl) (fun hg => by omega)) ?_
     refine AWL.y rfl rfl (B rfl) (Yv.assign rfl (E rfl rfl)) ?_
     refine AWL.nil ?_
     refine ⟨j + 1, ⟨by omega, fun i hi => ?_⟩, by omega, Sub.cons rfl rfl (Sub.cons rfl (by simp) Sub.nil), rfl⟩
     rcases Nat.lt_or_ge i j with h | h
     · exact hlab i h
     · rw [show i = j by omega]; exact hlr
    try replace h3f := of_decide_eq_false h3f
    refine AW.exit ?_
    refine AW.rseq ?_
    refine AWL.y rfl rfl (B rfl) (Yv.assign rfl (E rfl rfl)) ?_
    refine AWL.nil ?_
    refine AW.ret (retI (.tmp rfl .nil) ?_)
    obtain rfl : j = l.length := by omega
    rw [checkF_ok hpre (bad_labR hlab)]
    rfl

set_option maxHeartbeats 4000000 in
theorem refLay24 (l : List Line) (hl : l.length ≤ NL) (hck : checkF l = 0) :
    ACalls Try.prog 24 [linesT l] [] (fun t_ S => t_ = .tup [.sl 1 ((zL l (sizesF l)).map zi), .sl 1 ((plF (sizesF l)).map zi)]) := by
  have hnl : l.length ≤ 1099511627 := hl
  unfold NL at hl
  refine ACalls.intro Try.func24 rfl Try.ntmps24 (Nat.le_of_ble_eq_true rfl) rfl fun X w0 => ?_
  refine AW.rseq ?_
  refine AWL.y rfl rfl (B rfl) (Yv.assign rfl (E rfl rfl)) ?_
  refine AWL.y rfl rfl (B rfl) (Yv.assign rfl (E rfl rfl)) ?_
  refine AWL.nil ?_
  refine AW.rseq ?_
  refine AWL.y rfl rfl (B rfl) (Yv.move rfl (E rfl rfl)) ?_
  refine AWL.y rfl rfl (B rfl) (Yv.lenSl rfl so_22 (B rfl) (E rfl rfl) len_lines) ?_
  refine AWL.makeRow (n := l.length) (c := l.length) rfl rfl (B rfl) rfl el_51 (E rfl rfl) (E rfl rfl) (by omega) (by omega) (by unfold maxLen; omega) (fun A14 => ?_)
  refine AWL.y rfl rfl (B rfl) (Yv.assign rfl (E rfl rfl)) ?_
  refine AWL.nil ?_
  refine AW.rseq ?_
  refine AWL.y rfl rfl (B rfl) (Yv.move rfl (E rfl rfl)) ?_
  refine AWL.y rfl rfl (B rfl) (Yv.lenSl rfl so_22 (B rfl) (E rfl rfl) len_lines) ?_
  refine AWL.makeRow (n := l.length) (c := l.length) rfl rfl (B rfl) rfl el_51 (E rfl rfl) (E rfl rfl) (by omega) (by omega) (by unfold maxLen; omega) (fun A17 => ?_)
  refine AWL.y rfl rfl (B rfl) (Yv.assign rfl (E rfl rfl)) ?_
  refine AWL.nil ?_
  refine AW.seq ?_
  rw [flat_rep]
  refine AW.eqS (S' := [Ent.row A14 l.length l.length 3 1 ((fillN one l 0).map zi), Ent.row A17 l.length l.length 3 1 (ints (fillW l 0))]) (by rw [fill_zero, fillW_zero, ints, List.map_replicate, List.map_replicate]; rfl) ?_
  refine AW.rseq ?_
  refine AWL.y rfl rfl (B rfl) (Yv.assign rfl (E rfl rfl)) ?_
  refine AWL.nil ?_
  refine AW.block ?_
  refine AW.loop (fun (j : Nat) => [(0, true, linesT l), (4, true, .v (.slice A14 l.length l.length)), (5, true, .v (.slice A17 l.length l.length)), (6, true, .v (.int .i64 (j : Int)))]) (fun (j : Nat) => [Ent.row A14 l.length l.length 3 1 ((fillN one l j).map zi), Ent.row A17 l.length l.length 3 1 (ints (fillW l j))]) (fun (j : Nat) => j ≤ l.length) (fun (j : Nat) => l.length - j) 0 ?_ ?_ ?_ ?_
  · exact Nat.zero_le _
  · exact (Sub.cons rfl rfl (Sub.cons rfl rfl (Sub.cons rfl rfl (Sub.cons rfl rfl Sub.nil))))
  · rfl
  ·
   intro j hinv
   refine AW.seq ?_
   refine AW.rseq ?_
   refine AWL.y rfl rfl (B rfl) (Yv.move rfl (E rfl rfl)) ?_
   refine AWL.y rfl rfl (B rfl) (Yv.move rfl (E rfl rfl)) ?_
   refine AWL.y rfl rfl (B rfl) (Yv.lenSl rfl so_22 (B rfl) (E rfl rfl) len_lines) ?_
   refine AWL.y rfl rfl (B rfl) (Yv.lss rfl (E rfl rfl) (E rfl rfl)) ?_
   refine AWL.nil ?_
   refine AW.cond rfl (fun h0t => ?_) (fun h0f => ?_)
   ·
    try replace h0t := of_decide_eq_true h0t
    refine AW.skip ?_
    refine AW.seq ?_
    refine AW.block ?_
    refine AW.rseq ?_
    refine AWL.y rfl rfl (B rfl) (Yv.move rfl (E rfl rfl)) ?_
    refine AWL.y rfl rfl (B rfl) (Yv.move rfl (E rfl rfl)) ?_
    refine AWL.y rfl rfl (B rfl) (Yv.indexRow rfl ss_51 (i := 0) rfl (E rfl rfl) (E rfl rfl) (fun hg => ⟨rfl, by omega⟩)) ?_
    refine AWL.storeEp1 (i := 0) rfl rfl rfl ag_3 rfl (E rfl rfl) (E rfl rfl) rfl rfl (by rw [List.length_map, fill_len (by omega)]; omega) ?_
    refine AWL.nil ?_
    refine AW.region ?_
    refine AWL.y rfl rfl (B rfl) (Yv.move rfl (E rfl rfl)) ?_
    refine AWL.y rfl rfl (B rfl) (Yv.move rfl (E rfl rfl)) ?_
    refine AWL.y rfl rfl (B rfl) (Yv.move rfl (E rfl rfl)) ?_
    refine AWL.y rfl rfl (B rfl) (Yv.move rfl (E rfl rfl)) ?_
    refine AWL.y rfl rfl (B rfl) (Yv.move rfl (E rfl rfl)) ?_
    refine AWL.y rfl rfl (B rfl) (Yv.indexSl rfl ss_22 (B rfl) (E rfl rfl) (E rfl rfl) (fun hg => ⟨rfl, (by first | omega | (simp only [len_lines, len_inss, len_zu, len_ints, len_u8s, len_zq, len_forms]; omega))⟩)) ?_
    refine AWL.y rfl rfl (B rfl) (Yv.fieldRp rfl fo_32_2 (E rfl rfl)) ?_
    refine AWL.y rfl rfl (B rfl) (Yv.loadRp rfl ag_3 (E rfl rfl) (fun hg => line_at7 (by omega))) ?_
    refine AWL.callP rfl rfl (B rfl) rfl ce_20 (E rfl rfl) (evsC (E rfl rfl) (evsC (E rfl rfl) evs0)) (where20 l (by unfold NL; omega) (l.getD j default).l) (fun t S h => h) ?_
    refine AWL.y rfl rfl (B rfl) (Yv.indexRow rfl ss_51 (i := 1) rfl (E rfl rfl) (E rfl rfl) (fun hg => ⟨rfl, by omega⟩)) ?_
    refine AWL.storeEp1 (i := 1) rfl rfl rfl ag_3 rfl (E rfl rfl) (E rfl rfl) rfl rfl (by rw [show (ints (fillW l j)).length = (fillW l j).length from List.length_map .., fillW_len (by omega)]; omega) ?_
    refine AWL.nil ?_
    refine AW.region ?_
    refine AWL.y rfl rfl (B rfl) (Yv.move rfl (E rfl rfl)) ?_
    refine AWL.y rfl rfl (B rfl) (Yv.addN_i64 rfl (E rfl rfl) (E rfl rfl) (fun hg => by omega)) ?_
    refine AWL.y rfl rfl (B rfl) (Yv.assign rfl (E rfl rfl)) ?_
    refine AWL.nil ?_
    refine ⟨j + 1, by omega, by omega, Sub.cons rfl rfl (Sub.cons rfl rfl (Sub.cons rfl rfl (Sub.cons rfl (by simp) Sub.nil))), ?_⟩
    rw [← fill_setI' (v := 1) (by omega) rfl, ← fillW_set (by omega) rfl]
    rfl
   try replace h0f := of_decide_eq_false h0f
   refine AW.exit ?_
   refine AW.block ?_
   obtain rfl : j = l.length := by omega
   rw [fill_one, fillW_all]
   refine AW.loop (fun (sz : List Nat) => [(0, true, linesT l), (4, true, .v (.slice A14 l.length l.length)), (5, true, .v (.slice A17 l.length l.length))]) (fun (sz : List Nat) => [Ent.row A14 l.length l.length 3 1 ((zL l sz).map zi), Ent.row A17 l.length l.length 3 1 (ints (toR l))]) (fun (sz : List Nat) => GI l (tgF l) sz ∧ ∃ f, sz.count 2 < f ∧ growN l (tgF l) f sz = sizesF l) (fun (sz : List Nat) => sz.count 2) ((l.map size0)) ?_ ?_ ?_ ?_
   · exact ⟨GI.first l _, l.length + 1, by have := List.count_le_length (a := 2) (l := l.map size0); rw [List.length_map] at this; omega, rfl⟩
   · exact (Sub.cons rfl rfl (Sub.cons rfl rfl (Sub.cons rfl rfl Sub.nil)))
   · rfl
   ·
    intro sz hinv
    obtain ⟨hgi, fu, hfu, hgr⟩ := hinv
    have hsl := hgi.len
    have hplb : ∀ k, (plF sz).getD k 0 ≤ 12094627897 := plF_bound (GI_le hgi) (by omega)
    have hplen : (plF sz).length = l.length + 1 := by rw [plF_len, hsl]
    have hzl := zL_len l sz
    have htr : (toR l).length = l.length := List.length_map ..
    refine AW.block ?_
    refine AW.rseq ?_
    refine AWL.y rfl rfl (B rfl) (Yv.move rfl (E rfl rfl)) ?_
    refine AWL.y rfl rfl (B rfl) (Yv.lenSl rfl so_22 (B rfl) (E rfl rfl) len_lines) ?_
    refine AWL.y rfl rfl (B rfl) (Yv.addN_i64 rfl (E rfl rfl) (E rfl rfl) (fun hg => by omega)) ?_
    refine AWL.makeRow (n := l.length + 1) (c := l.length + 1) rfl rfl (B rfl) rfl el_55 (E rfl rfl) (E rfl rfl) (by omega) (by omega) (by unfold maxLen; omega) (fun A40 => ?_)
    refine AWL.y rfl rfl (B rfl) (Yv.assign rfl (E rfl rfl)) ?_
    refine AWL.nil ?_
    refine AW.seq ?_
    rw [flat_rep, show List.replicate (l.length + 1) (T.v (.int .i64 0)) = (plN sz 0).map zi by rw [plN_zero, hgi.len, List.map_replicate]; rfl]
    refine AW.rseq ?_
    refine AWL.y rfl rfl (B rfl) (Yv.assign rfl (E rfl rfl)) ?_
    refine AWL.nil ?_
    refine AW.block ?_
    refine AW.loop (fun (j : Nat) => [(0, true, linesT l), (4, true, .v (.slice A14 l.length l.length)), (5, true, .v (.slice A17 l.length l.length)), (7, true, .v (.slice A40 (l.length + 1) (l.length + 1))), (8, true, .v (.int .i64 (j : Int)))]) (fun (j : Nat) => [Ent.row A14 l.length l.length 3 1 ((zL l sz).map zi), Ent.row A17 l.length l.length 3 1 (ints (toR l)), Ent.row A40 (l.length + 1) (l.length + 1) 2 1 ((plN sz j).map zi)]) (fun (j : Nat) => j ≤ l.length) (fun (j : Nat) => l.length - j) 0 ?_ ?_ ?_ ?_
    · exact Nat.zero_le _
    · exact (Sub.cons rfl rfl (Sub.cons rfl rfl (Sub.cons rfl rfl (Sub.cons rfl rfl (Sub.cons rfl rfl Sub.nil)))))
    · rfl
    ·
     intro j hinv
     refine AW.seq ?_
     refine AW.rseq ?_
     refine AWL.y rfl rfl (B rfl) (Yv.move rfl (E rfl rfl)) ?_
     refine AWL.y rfl rfl (B rfl) (Yv.move rfl (E rfl rfl)) ?_
     refine AWL.y rfl rfl (B rfl) (Yv.lenSl rfl so_22 (B rfl) (E rfl rfl) len_lines) ?_
     refine AWL.y rfl rfl (B rfl) (Yv.lss rfl (E rfl rfl) (E rfl rfl)) ?_
     refine AWL.nil ?_
     refine AW.cond rfl (fun h1t => ?_) (fun h1f => ?_)
     ·
      try replace h1t := of_decide_eq_true h1t
      refine AW.skip ?_
      refine AW.seq ?_
      refine AW.block ?_
      have hpb := pre_bound (GI_le hgi) (by have := hgi.len; omega) j
      have hzj := getD_le (GI_le hgi) j
      have hll : lenR (l.getD j default) (((zL l sz).getD j 0 : Nat) : Int) = sz.getD j 0 := by rw [zL_get (by omega)]; exact len_line hck hgi (show j < l.length by omega)
      have hpg : (plN sz j).getD j 0 = pre sz j := plN_get
      refine AW.regionP rfl ?_
      refine AWP.take (i := 0) rfl (by kernel_rfl) (by kernel_rfl) (by kernel_rfl) rfl rfl (B rfl) (freeMove rfl (E rfl rfl)) ?_
      refine AWP.take (i := 1) rfl (by kernel_rfl) (by kernel_rfl) (by kernel_rfl) rfl rfl (B rfl) (freeMove rfl (E rfl rfl)) ?_
      refine AWP.take (i := 2) rfl (by kernel_rfl) (by kernel_rfl) (by kernel_rfl) rfl rfl (B rfl) (freeAdd_i64 rfl (E rfl rfl) (E rfl rfl) (by omega)) ?_
      refine AWP.take (i := 3) rfl (by kernel_rfl) (by kernel_rfl) (by kernel_rfl) rfl rfl (B rfl) (freeMove rfl (E rfl rfl)) ?_
      refine AWP.take (i := 4) rfl (by kernel_rfl) (by kernel_rfl) (by kernel_rfl) rfl rfl (B rfl) (freeMove rfl (E rfl rfl)) ?_
      refine AWP.take (i := 5) rfl (by kernel_rfl) (by kernel_rfl) (by kernel_rfl) rfl rfl (B rfl) (freeIdxRow (i := 2) (j := j) rfl ss_55 rfl (E rfl rfl) (E rfl rfl) ⟨rfl, by omega⟩) ?_
      refine AWP.take (i := 7) rfl (by kernel_rfl) (by kernel_rfl) (by kernel_rfl) rfl rfl (B rfl) (freeMove rfl (E rfl rfl)) ?_
      refine AWP.take (i := 8) rfl (by kernel_rfl) (by kernel_rfl) (by kernel_rfl) rfl rfl (B rfl) (freeMove rfl (E rfl rfl)) ?_
      refine AWP.take (i := 9) rfl (by kernel_rfl) (by kernel_rfl) (by kernel_rfl) rfl rfl (B rfl) (freeIdxSl (j := j) rfl ss_22 (B rfl) (E rfl rfl) (E rfl rfl) ⟨rfl, by simp only [len_lines]; omega⟩) ?_
      refine AWP.take (i := 11) rfl (by kernel_rfl) (by kernel_rfl) (by kernel_rfl) rfl rfl (B rfl) (freeMove rfl (E rfl rfl)) ?_
      refine AWP.take (i := 12) rfl (by kernel_rfl) (by kernel_rfl) (by kernel_rfl) rfl rfl (B rfl) (freeMove rfl (E rfl rfl)) ?_
      refine AWP.take (i := 13) rfl (by kernel_rfl) (by kernel_rfl) (by kernel_rfl) rfl rfl (B rfl) (freeIdxRow (i := 0) (j := j) rfl ss_51 rfl (E rfl rfl) (E rfl rfl) ⟨rfl, by omega⟩) ?_
      refine AWP.three (i := 6) (j := 10) (k := 14) (by kernel_rfl) rfl rfl rfl ?_ ?_ ?_
      ·
       refine AWL.y rfl rfl (B rfl) (Yv.loadEp rfl ag_2 (i := 2) rfl (E rfl rfl) (fun hg => zi_get (by first | omega | (rw [plN_len (by omega)]; omega)))) ?_
       refine AWL.nil ?_
       refine AWP.two (i := 10) (j := 14) (by kernel_rfl) rfl rfl ?_ ?_
       ·
        refine AWL.y rfl rfl (B rfl) (Yv.loadRpA rfl ag_32 (E rfl rfl) (fun hg => line_get (by omega))) ?_
        refine AWL.nil ?_
        refine AWP.one (i := 14) (by kernel_rfl) rfl ?_
        refine AWL.y rfl rfl (B rfl) (Yv.loadEp rfl ag_3 (i := 0) rfl (E rfl rfl) (fun hg => zi_get (by omega))) ?_
        refine AWL.nil ?_
        refine AWP.one (i := 15) (by kernel_rfl) rfl ?_
        refine AWL.callP rfl rfl (B rfl) rfl ce_45 (E rfl rfl) (evsC (E rfl rfl) (evsC (E rfl rfl) evs0)) (length45 (l.getD j default) (((zL l sz).getD j 0 : Nat) : Int)) (fun t S h => h) ?_
        refine AWL.nil ?_
        refine AWP.one (i := 16) (by kernel_rfl) rfl ?_
        refine AWL.y rfl rfl (B rfl) (Yv.addN_i64 rfl (E rfl rfl) (E rfl rfl) (fun hg => by omega)) ?_
        refine AWL.nil ?_
        refine AWP.one (i := 17) (by kernel_rfl) rfl ?_
        refine AWL.y rfl rfl (B rfl) (Yv.indexRow (j := (j + 1)) rfl ss_55 (i := 2) rfl (E rfl rfl) (E rfl rfl) (fun hg => ⟨by omega, by omega⟩)) ?_
        refine AWL.nil ?_
        refine AWP.one (i := 18) (by kernel_rfl) rfl ?_
        refine AWL.storeEp1 (i := 2) rfl rfl rfl ag_2 rfl (E rfl rfl) (E rfl rfl) rfl rfl (by rw [List.length_map, plN_len (by omega)]; omega) ?_
        refine AWL.nil ?_
        refine AWP.done (by kernel_rfl) ?_
        refine AW.region ?_
        refine AWL.y rfl rfl (B rfl) (Yv.move rfl (E rfl rfl)) ?_
        refine AWL.y rfl rfl (B rfl) (Yv.addN_i64 rfl (E rfl rfl) (E rfl rfl) (fun hg => by omega)) ?_
        refine AWL.y rfl rfl (B rfl) (Yv.assign rfl (E rfl rfl)) ?_
        refine AWL.nil ?_
        refine ⟨j + 1, by omega, by omega, Sub.cons rfl rfl (Sub.cons rfl rfl (Sub.cons rfl rfl (Sub.cons rfl rfl (Sub.cons rfl (by simp) Sub.nil)))), ?_⟩
        rw [← plN_setI (by have := hgi.len; omega) rfl, ← hll, ← hpg]
        rfl
       ·
        refine AWL.y rfl rfl (B rfl) (Yv.loadEp rfl ag_3 (i := 0) rfl (E rfl rfl) (fun hg => zi_get (by omega))) ?_
        refine AWL.nil ?_
        refine AWP.one (i := 10) (by kernel_rfl) rfl ?_
        refine AWL.y rfl rfl (B rfl) (Yv.loadRpA rfl ag_32 (E rfl rfl) (fun hg => line_get (by omega))) ?_
        refine AWL.nil ?_
        refine AWP.one (i := 15) (by kernel_rfl) rfl ?_
        refine AWL.callP rfl rfl (B rfl) rfl ce_45 (E rfl rfl) (evsC (E rfl rfl) (evsC (E rfl rfl) evs0)) (length45 (l.getD j default) (((zL l sz).getD j 0 : Nat) : Int)) (fun t S h => h) ?_
        refine AWL.nil ?_
        refine AWP.one (i := 16) (by kernel_rfl) rfl ?_
        refine AWL.y rfl rfl (B rfl) (Yv.addN_i64 rfl (E rfl rfl) (E rfl rfl) (fun hg => by omega)) ?_
        refine AWL.nil ?_
        refine AWP.one (i := 17) (by kernel_rfl) rfl ?_
        refine AWL.y rfl rfl (B rfl) (Yv.indexRow (j := (j + 1)) rfl ss_55 (i := 2) rfl (E rfl rfl) (E rfl rfl) (fun hg => ⟨by omega, by omega⟩)) ?_
        refine AWL.nil ?_
        refine AWP.one (i := 18) (by kernel_rfl) rfl ?_
        refine AWL.storeEp1 (i := 2) rfl rfl rfl ag_2 rfl (E rfl rfl) (E rfl rfl) rfl rfl (by rw [List.length_map, plN_len (by omega)]; omega) ?_
        refine AWL.nil ?_
        refine AWP.done (by kernel_rfl) ?_
        refine AW.region ?_
        refine AWL.y rfl rfl (B rfl) (Yv.move rfl (E rfl rfl)) ?_
        refine AWL.y rfl rfl (B rfl) (Yv.addN_i64 rfl (E rfl rfl) (E rfl rfl) (fun hg => by omega)) ?_
        refine AWL.y rfl rfl (B rfl) (Yv.assign rfl (E rfl rfl)) ?_
        refine AWL.nil ?_
        refine ⟨j + 1, by omega, by omega, Sub.cons rfl rfl (Sub.cons rfl rfl (Sub.cons rfl rfl (Sub.cons rfl rfl (Sub.cons rfl (by simp) Sub.nil)))), ?_⟩
        rw [← plN_setI (by have := hgi.len; omega) rfl, ← hll, ← hpg]
        rfl
      ·
       refine AWL.y rfl rfl (B rfl) (Yv.loadRpA rfl ag_32 (E rfl rfl) (fun hg => line_get (by omega))) ?_
       refine AWL.nil ?_
       refine AWP.two (i := 6) (j := 14) (by kernel_rfl) rfl rfl ?_ ?_
       ·
        refine AWL.y rfl rfl (B rfl) (Yv.loadEp rfl ag_2 (i := 2) rfl (E rfl rfl) (fun hg => zi_get (by first | omega | (rw [plN_len (by omega)]; omega)))) ?_
        refine AWL.nil ?_
        refine AWP.one (i := 14) (by kernel_rfl) rfl ?_
        refine AWL.y rfl rfl (B rfl) (Yv.loadEp rfl ag_3 (i := 0) rfl (E rfl rfl) (fun hg => zi_get (by omega))) ?_
        refine AWL.nil ?_
        refine AWP.one (i := 15) (by kernel_rfl) rfl ?_
        refine AWL.callP rfl rfl (B rfl) rfl ce_45 (E rfl rfl) (evsC (E rfl rfl) (evsC (E rfl rfl) evs0)) (length45 (l.getD j default) (((zL l sz).getD j 0 : Nat) : Int)) (fun t S h => h) ?_
        refine AWL.nil ?_
        refine AWP.one (i := 16) (by kernel_rfl) rfl ?_
        refine AWL.y rfl rfl (B rfl) (Yv.addN_i64 rfl (E rfl rfl) (E rfl rfl) (fun hg => by omega)) ?_
        refine AWL.nil ?_
        refine AWP.one (i := 17) (by kernel_rfl) rfl ?_
        refine AWL.y rfl rfl (B rfl) (Yv.indexRow (j := (j + 1)) rfl ss_55 (i := 2) rfl (E rfl rfl) (E rfl rfl) (fun hg => ⟨by omega, by omega⟩)) ?_
        refine AWL.nil ?_
        refine AWP.one (i := 18) (by kernel_rfl) rfl ?_
        refine AWL.storeEp1 (i := 2) rfl rfl rfl ag_2 rfl (E rfl rfl) (E rfl rfl) rfl rfl (by rw [List.length_map, plN_len (by omega)]; omega) ?_
        refine AWL.nil ?_
        refine AWP.done (by kernel_rfl) ?_
        refine AW.region ?_
        refine AWL.y rfl rfl (B rfl) (Yv.move rfl (E rfl rfl)) ?_
        refine AWL.y rfl rfl (B rfl) (Yv.addN_i64 rfl (E rfl rfl) (E rfl rfl) (fun hg => by omega)) ?_
        refine AWL.y rfl rfl (B rfl) (Yv.assign rfl (E rfl rfl)) ?_
        refine AWL.nil ?_
        refine ⟨j + 1, by omega, by omega, Sub.cons rfl rfl (Sub.cons rfl rfl (Sub.cons rfl rfl (Sub.cons rfl rfl (Sub.cons rfl (by simp) Sub.nil)))), ?_⟩
        rw [← plN_setI (by have := hgi.len; omega) rfl, ← hll, ← hpg]
        rfl
       ·
        refine AWL.y rfl rfl (B rfl) (Yv.loadEp rfl ag_3 (i := 0) rfl (E rfl rfl) (fun hg => zi_get (by omega))) ?_
        refine AWL.nil ?_
        refine AWP.two (i := 6) (j := 15) (by kernel_rfl) rfl rfl ?_ ?_
        ·
         refine AWL.y rfl rfl (B rfl) (Yv.loadEp rfl ag_2 (i := 2) rfl (E rfl rfl) (fun hg => zi_get (by first | omega | (rw [plN_len (by omega)]; omega)))) ?_
         refine AWL.nil ?_
         refine AWP.one (i := 15) (by kernel_rfl) rfl ?_
         refine AWL.callP rfl rfl (B rfl) rfl ce_45 (E rfl rfl) (evsC (E rfl rfl) (evsC (E rfl rfl) evs0)) (length45 (l.getD j default) (((zL l sz).getD j 0 : Nat) : Int)) (fun t S h => h) ?_
         refine AWL.nil ?_
         refine AWP.one (i := 16) (by kernel_rfl) rfl ?_
         refine AWL.y rfl rfl (B rfl) (Yv.addN_i64 rfl (E rfl rfl) (E rfl rfl) (fun hg => by omega)) ?_
         refine AWL.nil ?_
         refine AWP.one (i := 17) (by kernel_rfl) rfl ?_
         refine AWL.y rfl rfl (B rfl) (Yv.indexRow (j := (j + 1)) rfl ss_55 (i := 2) rfl (E rfl rfl) (E rfl rfl) (fun hg => ⟨by omega, by omega⟩)) ?_
         refine AWL.nil ?_
         refine AWP.one (i := 18) (by kernel_rfl) rfl ?_
         refine AWL.storeEp1 (i := 2) rfl rfl rfl ag_2 rfl (E rfl rfl) (E rfl rfl) rfl rfl (by rw [List.length_map, plN_len (by omega)]; omega) ?_
         refine AWL.nil ?_
         refine AWP.done (by kernel_rfl) ?_
         refine AW.region ?_
         refine AWL.y rfl rfl (B rfl) (Yv.move rfl (E rfl rfl)) ?_
         refine AWL.y rfl rfl (B rfl) (Yv.addN_i64 rfl (E rfl rfl) (E rfl rfl) (fun hg => by omega)) ?_
         refine AWL.y rfl rfl (B rfl) (Yv.assign rfl (E rfl rfl)) ?_
         refine AWL.nil ?_
         refine ⟨j + 1, by omega, by omega, Sub.cons rfl rfl (Sub.cons rfl rfl (Sub.cons rfl rfl (Sub.cons rfl rfl (Sub.cons rfl (by simp) Sub.nil)))), ?_⟩
         rw [← plN_setI (by have := hgi.len; omega) rfl, ← hll, ← hpg]
         rfl
        ·
         refine AWL.callP rfl rfl (B rfl) rfl ce_45 (E rfl rfl) (evsC (E rfl rfl) (evsC (E rfl rfl) evs0)) (length45 (l.getD j default) (((zL l sz).getD j 0 : Nat) : Int)) (fun t S h => h) ?_
         refine AWL.nil ?_
         refine AWP.one (i := 6) (by kernel_rfl) rfl ?_
         refine AWL.y rfl rfl (B rfl) (Yv.loadEp rfl ag_2 (i := 2) rfl (E rfl rfl) (fun hg => zi_get (by first | omega | (rw [plN_len (by omega)]; omega)))) ?_
         refine AWL.nil ?_
         refine AWP.one (i := 16) (by kernel_rfl) rfl ?_
         refine AWL.y rfl rfl (B rfl) (Yv.addN_i64 rfl (E rfl rfl) (E rfl rfl) (fun hg => by omega)) ?_
         refine AWL.nil ?_
         refine AWP.one (i := 17) (by kernel_rfl) rfl ?_
         refine AWL.y rfl rfl (B rfl) (Yv.indexRow (j := (j + 1)) rfl ss_55 (i := 2) rfl (E rfl rfl) (E rfl rfl) (fun hg => ⟨by omega, by omega⟩)) ?_
         refine AWL.nil ?_
         refine AWP.one (i := 18) (by kernel_rfl) rfl ?_
         refine AWL.storeEp1 (i := 2) rfl rfl rfl ag_2 rfl (E rfl rfl) (E rfl rfl) rfl rfl (by rw [List.length_map, plN_len (by omega)]; omega) ?_
         refine AWL.nil ?_
         refine AWP.done (by kernel_rfl) ?_
         refine AW.region ?_
         refine AWL.y rfl rfl (B rfl) (Yv.move rfl (E rfl rfl)) ?_
         refine AWL.y rfl rfl (B rfl) (Yv.addN_i64 rfl (E rfl rfl) (E rfl rfl) (fun hg => by omega)) ?_
         refine AWL.y rfl rfl (B rfl) (Yv.assign rfl (E rfl rfl)) ?_
         refine AWL.nil ?_
         refine ⟨j + 1, by omega, by omega, Sub.cons rfl rfl (Sub.cons rfl rfl (Sub.cons rfl rfl (Sub.cons rfl rfl (Sub.cons rfl (by simp) Sub.nil)))), ?_⟩
         rw [← plN_setI (by have := hgi.len; omega) rfl, ← hll, ← hpg]
         rfl
      ·
       refine AWL.y rfl rfl (B rfl) (Yv.loadEp rfl ag_3 (i := 0) rfl (E rfl rfl) (fun hg => zi_get (by omega))) ?_
       refine AWL.nil ?_
       refine AWP.two (i := 6) (j := 10) (by kernel_rfl) rfl rfl ?_ ?_
       ·
        refine AWL.y rfl rfl (B rfl) (Yv.loadEp rfl ag_2 (i := 2) rfl (E rfl rfl) (fun hg => zi_get (by first | omega | (rw [plN_len (by omega)]; omega)))) ?_
        refine AWL.nil ?_
        refine AWP.one (i := 10) (by kernel_rfl) rfl ?_
        refine AWL.y rfl rfl (B rfl) (Yv.loadRpA rfl ag_32 (E rfl rfl) (fun hg => line_get (by omega))) ?_
        refine AWL.nil ?_
        refine AWP.one (i := 15) (by kernel_rfl) rfl ?_
        refine AWL.callP rfl rfl (B rfl) rfl ce_45 (E rfl rfl) (evsC (E rfl rfl) (evsC (E rfl rfl) evs0)) (length45 (l.getD j default) (((zL l sz).getD j 0 : Nat) : Int)) (fun t S h => h) ?_
        refine AWL.nil ?_
        refine AWP.one (i := 16) (by kernel_rfl) rfl ?_
        refine AWL.y rfl rfl (B rfl) (Yv.addN_i64 rfl (E rfl rfl) (E rfl rfl) (fun hg => by omega)) ?_
        refine AWL.nil ?_
        refine AWP.one (i := 17) (by kernel_rfl) rfl ?_
        refine AWL.y rfl rfl (B rfl) (Yv.indexRow (j := (j + 1)) rfl ss_55 (i := 2) rfl (E rfl rfl) (E rfl rfl) (fun hg => ⟨by omega, by omega⟩)) ?_
        refine AWL.nil ?_
        refine AWP.one (i := 18) (by kernel_rfl) rfl ?_
        refine AWL.storeEp1 (i := 2) rfl rfl rfl ag_2 rfl (E rfl rfl) (E rfl rfl) rfl rfl (by rw [List.length_map, plN_len (by omega)]; omega) ?_
        refine AWL.nil ?_
        refine AWP.done (by kernel_rfl) ?_
        refine AW.region ?_
        refine AWL.y rfl rfl (B rfl) (Yv.move rfl (E rfl rfl)) ?_
        refine AWL.y rfl rfl (B rfl) (Yv.addN_i64 rfl (E rfl rfl) (E rfl rfl) (fun hg => by omega)) ?_
        refine AWL.y rfl rfl (B rfl) (Yv.assign rfl (E rfl rfl)) ?_
        refine AWL.nil ?_
        refine ⟨j + 1, by omega, by omega, Sub.cons rfl rfl (Sub.cons rfl rfl (Sub.cons rfl rfl (Sub.cons rfl rfl (Sub.cons rfl (by simp) Sub.nil)))), ?_⟩
        rw [← plN_setI (by have := hgi.len; omega) rfl, ← hll, ← hpg]
        rfl
       ·
        refine AWL.y rfl rfl (B rfl) (Yv.loadRpA rfl ag_32 (E rfl rfl) (fun hg => line_get (by omega))) ?_
        refine AWL.nil ?_
        refine AWP.two (i := 6) (j := 15) (by kernel_rfl) rfl rfl ?_ ?_
        ·
         refine AWL.y rfl rfl (B rfl) (Yv.loadEp rfl ag_2 (i := 2) rfl (E rfl rfl) (fun hg => zi_get (by first | omega | (rw [plN_len (by omega)]; omega)))) ?_
         refine AWL.nil ?_
         refine AWP.one (i := 15) (by kernel_rfl) rfl ?_
         refine AWL.callP rfl rfl (B rfl) rfl ce_45 (E rfl rfl) (evsC (E rfl rfl) (evsC (E rfl rfl) evs0)) (length45 (l.getD j default) (((zL l sz).getD j 0 : Nat) : Int)) (fun t S h => h) ?_
         refine AWL.nil ?_
         refine AWP.one (i := 16) (by kernel_rfl) rfl ?_
         refine AWL.y rfl rfl (B rfl) (Yv.addN_i64 rfl (E rfl rfl) (E rfl rfl) (fun hg => by omega)) ?_
         refine AWL.nil ?_
         refine AWP.one (i := 17) (by kernel_rfl) rfl ?_
         refine AWL.y rfl rfl (B rfl) (Yv.indexRow (j := (j + 1)) rfl ss_55 (i := 2) rfl (E rfl rfl) (E rfl rfl) (fun hg => ⟨by omega, by omega⟩)) ?_
         refine AWL.nil ?_
         refine AWP.one (i := 18) (by kernel_rfl) rfl ?_
         refine AWL.storeEp1 (i := 2) rfl rfl rfl ag_2 rfl (E rfl rfl) (E rfl rfl) rfl rfl (by rw [List.length_map, plN_len (by omega)]; omega) ?_
         refine AWL.nil ?_
         refine AWP.done (by kernel_rfl) ?_
         refine AW.region ?_
         refine AWL.y rfl rfl (B rfl) (Yv.move rfl (E rfl rfl)) ?_
         refine AWL.y rfl rfl (B rfl) (Yv.addN_i64 rfl (E rfl rfl) (E rfl rfl) (fun hg => by omega)) ?_
         refine AWL.y rfl rfl (B rfl) (Yv.assign rfl (E rfl rfl)) ?_
         refine AWL.nil ?_
         refine ⟨j + 1, by omega, by omega, Sub.cons rfl rfl (Sub.cons rfl rfl (Sub.cons rfl rfl (Sub.cons rfl rfl (Sub.cons rfl (by simp) Sub.nil)))), ?_⟩
         rw [← plN_setI (by have := hgi.len; omega) rfl, ← hll, ← hpg]
         rfl
        ·
         refine AWL.callP rfl rfl (B rfl) rfl ce_45 (E rfl rfl) (evsC (E rfl rfl) (evsC (E rfl rfl) evs0)) (length45 (l.getD j default) (((zL l sz).getD j 0 : Nat) : Int)) (fun t S h => h) ?_
         refine AWL.nil ?_
         refine AWP.one (i := 6) (by kernel_rfl) rfl ?_
         refine AWL.y rfl rfl (B rfl) (Yv.loadEp rfl ag_2 (i := 2) rfl (E rfl rfl) (fun hg => zi_get (by first | omega | (rw [plN_len (by omega)]; omega)))) ?_
         refine AWL.nil ?_
         refine AWP.one (i := 16) (by kernel_rfl) rfl ?_
         refine AWL.y rfl rfl (B rfl) (Yv.addN_i64 rfl (E rfl rfl) (E rfl rfl) (fun hg => by omega)) ?_
         refine AWL.nil ?_
         refine AWP.one (i := 17) (by kernel_rfl) rfl ?_
         refine AWL.y rfl rfl (B rfl) (Yv.indexRow (j := (j + 1)) rfl ss_55 (i := 2) rfl (E rfl rfl) (E rfl rfl) (fun hg => ⟨by omega, by omega⟩)) ?_
         refine AWL.nil ?_
         refine AWP.one (i := 18) (by kernel_rfl) rfl ?_
         refine AWL.storeEp1 (i := 2) rfl rfl rfl ag_2 rfl (E rfl rfl) (E rfl rfl) rfl rfl (by rw [List.length_map, plN_len (by omega)]; omega) ?_
         refine AWL.nil ?_
         refine AWP.done (by kernel_rfl) ?_
         refine AW.region ?_
         refine AWL.y rfl rfl (B rfl) (Yv.move rfl (E rfl rfl)) ?_
         refine AWL.y rfl rfl (B rfl) (Yv.addN_i64 rfl (E rfl rfl) (E rfl rfl) (fun hg => by omega)) ?_
         refine AWL.y rfl rfl (B rfl) (Yv.assign rfl (E rfl rfl)) ?_
         refine AWL.nil ?_
         refine ⟨j + 1, by omega, by omega, Sub.cons rfl rfl (Sub.cons rfl rfl (Sub.cons rfl rfl (Sub.cons rfl rfl (Sub.cons rfl (by simp) Sub.nil)))), ?_⟩
         rw [← plN_setI (by have := hgi.len; omega) rfl, ← hll, ← hpg]
         rfl
     try replace h1f := of_decide_eq_false h1f
     refine AW.exit ?_
     obtain rfl : j = sz.length := by have := hgi.len; omega
     rw [plN_all]
     refine AW.rseq ?_
     refine AWL.y rfl rfl (B rfl) (Yv.assign rfl (E rfl rfl)) ?_
     refine AWL.nil ?_
     refine AW.seq ?_
     refine AW.rseq ?_
     refine AWL.y rfl rfl (B rfl) (Yv.assign rfl (E rfl rfl)) ?_
     refine AWL.nil ?_
     refine AW.block ?_
     refine AW.loop (fun (j : Nat) => [(0, true, linesT l), (4, true, .v (.slice A14 l.length l.length)), (5, true, .v (.slice A17 l.length l.length)), (7, true, .v (.slice A40 (l.length + 1) (l.length + 1))), (9, true, .v (.bool (decide ((mixN l (tgF l) (plF sz) sz j) ≠ sz)))), (10, true, .v (.int .i64 (j : Int)))]) (fun (j : Nat) => [Ent.row A14 l.length l.length 3 1 ((zL l (mixN l (tgF l) (plF sz) sz j)).map zi), Ent.row A17 l.length l.length 3 1 (ints (toR l)), Ent.row A40 (l.length + 1) (l.length + 1) 2 1 ((plF sz).map zi)]) (fun (j : Nat) => j ≤ l.length) (fun (j : Nat) => l.length - j) 0 ?_ ?_ ?_ ?_
     · exact Nat.zero_le _
     · exact (Sub.cons rfl rfl (Sub.cons rfl rfl (Sub.cons rfl rfl (Sub.cons rfl rfl (Sub.cons rfl (by rw [mix_zero, decide_eq_false (by simp)]; rfl) (Sub.cons rfl rfl Sub.nil))))))
     · rw [mix_zero]
     ·
      intro j hinv
      have hml := zL_len l (mixN l (tgF l) (plF sz) sz j)
      have hzz : j < l.length → ((((zL l (mixN l (tgF l) (plF sz) sz j)).getD j 0 : Nat) : Int) = 4 ↔ ((l.getD j default).kind = 3 ∨ (l.getD j default).kind = 4) ∧ ¬ sz.getD j 0 = 2) := fun h => by
        have e : (mixN l (tgF l) (plF sz) sz j).getD j 0 = sz.getD j 0 := mix_get (by omega)
        rw [zL_get h, zS, e, ← jmpF_iff]
        split
        · rename_i hq; exact ⟨fun _ => hq, fun _ => rfl⟩
        · rename_i hq; exact ⟨fun q => absurd q (by decide), fun q => absurd q hq⟩
      refine AW.seq ?_
      refine AW.rseq ?_
      refine AWL.y rfl rfl (B rfl) (Yv.move rfl (E rfl rfl)) ?_
      refine AWL.y rfl rfl (B rfl) (Yv.move rfl (E rfl rfl)) ?_
      refine AWL.y rfl rfl (B rfl) (Yv.lenSl rfl so_22 (B rfl) (E rfl rfl) len_lines) ?_
      refine AWL.y rfl rfl (B rfl) (Yv.lss rfl (E rfl rfl) (E rfl rfl)) ?_
      refine AWL.nil ?_
      refine AW.cond rfl (fun h2t => ?_) (fun h2f => ?_)
      ·
       try replace h2t := of_decide_eq_true h2t
       refine AW.skip ?_
       refine AW.seq ?_
       refine AW.block ?_
       refine AW.seq ?_
       refine AW.rseq ?_
       refine AWL.y rfl rfl (B rfl) (Yv.move rfl (E rfl rfl)) ?_
       refine AWL.y rfl rfl (B rfl) (Yv.move rfl (E rfl rfl)) ?_
       refine AWL.y rfl rfl (B rfl) (Yv.indexSl rfl ss_22 (B rfl) (E rfl rfl) (E rfl rfl) (fun hg => ⟨rfl, (by first | omega | (simp only [len_lines, len_inss, len_zu, len_ints, len_u8s, len_zq, len_forms]; omega))⟩)) ?_
       refine AWL.y rfl rfl (B rfl) (Yv.fieldRp rfl fo_32_0 (E rfl rfl)) ?_
       refine AWL.y rfl rfl (B rfl) (Yv.loadRp rfl ag_3 (E rfl rfl) (fun hg => line_at0 (by omega))) ?_
       refine AWL.y rfl rfl (B rfl) (Yv.neq rfl (E rfl rfl) (E rfl rfl)) ?_
       refine AWL.y rfl rfl (B rfl) (Yv.move rfl (E rfl rfl)) ?_
       refine AWL.ygT rfl rfl rfl rfl (B rfl) (Yv.move rfl (E rfl rfl)) ?_
       refine AWL.ygT rfl rfl rfl rfl (B rfl) (Yv.move rfl (E rfl rfl)) ?_
       refine AWL.ygT rfl rfl rfl rfl (B rfl) (Yv.indexSl rfl ss_22 (B rfl) (Eg rfl rfl id) (Eg rfl rfl id) (fun hg => ⟨rfl, (by first | omega | (simp only [len_lines, len_inss, len_zu, len_ints, len_u8s, len_zq, len_forms]; omega) | (simp only [len_lines, len_inss, len_zu, len_ints, len_u8s, len_zq, len_forms]; simp only [Bool.and_eq_true, Bool.or_eq_false_iff, Bool.not_eq_true', Bool.not_eq_false', decide_eq_true_eq, decide_eq_false_iff_not] at hg; omega))⟩)) ?_
       refine AWL.ygT rfl rfl rfl rfl (B rfl) (Yv.fieldRp rfl fo_32_0 (Eg rfl rfl id)) ?_
       refine AWL.ygT rfl rfl rfl rfl (B rfl) (Yv.loadRp rfl ag_3 (Eg rfl rfl id) (fun hg => line_at0 (by omega))) ?_
       refine AWL.ygT rfl rfl rfl rfl (B rfl) (Yv.neq rfl (Eg rfl rfl id) (E rfl rfl)) ?_
       refine AWL.y rfl rfl (B rfl) (Yv.pickAnd rfl (E rfl rfl) (Eg rfl rfl id)) ?_
       refine AWL.y rfl rfl (B rfl) (Yv.move rfl (E rfl rfl)) ?_
       refine AWL.ygF rfl rfl rfl rfl (B rfl) (Yv.move rfl (E rfl rfl)) ?_
       refine AWL.ygF rfl rfl rfl rfl (B rfl) (Yv.move rfl (E rfl rfl)) ?_
       refine AWL.ygF rfl rfl rfl rfl (B rfl) (Yv.indexRow rfl ss_51 (i := 0) rfl (Eg rfl rfl id) (Eg rfl rfl id) (fun hg => ⟨rfl, by omega⟩)) ?_
       refine AWL.ygF rfl rfl rfl rfl (B rfl) (Yv.loadEp rfl ag_3 (i := 0) rfl (Eg rfl rfl id) (fun hg => zi_get (by omega))) ?_
       refine AWL.ygF rfl rfl rfl rfl (B rfl) (Yv.eql rfl (Eg rfl rfl id) (E rfl rfl)) ?_
       refine AWL.y rfl rfl (B rfl) (Yv.pickOr (t := .const (.bool true)) rfl (E rfl rfl) (Eg rfl rfl id)) ?_
       refine AWL.nil ?_
       refine AW.cond rfl (fun h3t => ?_) (fun h3f => ?_)
       ·
        try replace h3t := of_decide_eq_true h3t
        refine AW.exit ?_
        refine AW.region ?_
        refine AWL.y rfl rfl (B rfl) (Yv.move rfl (E rfl rfl)) ?_
        refine AWL.y rfl rfl (B rfl) (Yv.addN_i64 rfl (E rfl rfl) (E rfl rfl) (fun hg => by omega)) ?_
        refine AWL.y rfl rfl (B rfl) (Yv.assign rfl (E rfl rfl)) ?_
        refine AWL.nil ?_
        have hsm := mix_same (l := l) (tg := tgF l) (p := plF sz) (show j < sz.length by omega) (newS_no (by simp only [Bool.or_eq_true, Bool.and_eq_true, Bool.or_eq_false_iff, Bool.and_eq_false_iff, Bool.not_eq_true', Bool.not_eq_false', decide_eq_true_eq, decide_eq_false_iff_not, Decidable.not_not] at h3t; rw [hzz (by omega)] at h3t; omega))
        refine ⟨j + 1, by omega, by omega, Sub.cons rfl rfl (Sub.cons rfl rfl (Sub.cons rfl rfl (Sub.cons rfl rfl (Sub.cons rfl (by rw [hsm]) (Sub.cons rfl (by simp) Sub.nil))))), ?_⟩
        rw [hsm] <;> rfl
       try replace h3f := of_decide_eq_false h3f
       have hjk : (l.getD j default).kind = 3 ∨ (l.getD j default).kind = 4 := by simp only [Bool.or_eq_true, Bool.and_eq_true, Bool.or_eq_false_iff, Bool.and_eq_false_iff, Bool.not_eq_true', Bool.not_eq_false', decide_eq_true_eq, decide_eq_false_iff_not, Decidable.not_not] at h3f; omega
       have hs2 : sz.getD j 0 = 2 := by simp only [Bool.or_eq_true, Bool.and_eq_true, Bool.or_eq_false_iff, Bool.and_eq_false_iff, Bool.not_eq_true', Bool.not_eq_false', decide_eq_true_eq, decide_eq_false_iff_not, Decidable.not_not] at h3f; rw [hzz (by omega)] at h3f; omega
       have hjw := jmp_where hck (show j < l.length by omega) (goes_of hjk)
       have htj := tgF_le l j
       have hpa := hplb ((tgF l).getD j 0)
       have hpb := hplb (j + 1)
       refine AW.skip ?_
       refine AW.rseqQ rfl (by kernel_rfl) ?_
       refine AWQ.y rfl rfl (B rfl) (Yv.move rfl (E rfl rfl)) ?_
       refine AWQ.y rfl rfl (B rfl) (Yv.move rfl (E rfl rfl)) ?_
       refine AWQ.y rfl rfl (B rfl) (Yv.move rfl (E rfl rfl)) ?_
       refine AWQ.y rfl rfl (B rfl) (Yv.indexRow rfl ss_51 (i := 1) rfl (E rfl rfl) (E rfl rfl) (fun hg => ⟨rfl, by omega⟩)) ?_
       refine AWQ.y rfl rfl (B rfl) (Yv.loadEp rfl ag_3 (i := 1) rfl (E rfl rfl) (fun hg => ints_get (by omega))) ?_
       refine AWQ.y rfl rfl (B rfl) (Yv.indexRow (j := ((tgF l).getD j 0)) rfl ss_55 (i := 2) rfl (E rfl rfl) (E rfl rfl) (fun hg => ⟨by rw [toR_get (by omega)]; exact hjw, by omega⟩)) ?_
       refine AWQ.y rfl rfl (B rfl) (Yv.loadEp rfl ag_2 (i := 2) rfl (E rfl rfl) (fun hg => zi_get (by omega))) ?_
       refine AWQ.y rfl rfl (B rfl) (Yv.move rfl (E rfl rfl)) ?_
       refine AWQ.y rfl rfl (B rfl) (Yv.move rfl (E rfl rfl)) ?_
       refine AWQ.y rfl rfl (B rfl) (Yv.addN_i64 rfl (E rfl rfl) (E rfl rfl) (fun hg => by omega)) ?_
       refine AWQ.y rfl rfl (B rfl) (Yv.indexRow (j := (j + 1)) rfl ss_55 (i := 2) rfl (E rfl rfl) (E rfl rfl) (fun hg => ⟨by omega, by omega⟩)) ?_
       refine AWQ.y rfl rfl (B rfl) (Yv.loadEp rfl ag_2 (i := 2) rfl (E rfl rfl) (fun hg => zi_get (by omega))) ?_
       refine AWQ.y rfl rfl (B rfl) (Yv.subN_i64 rfl (E rfl rfl) (E rfl rfl) (fun hg => by omega)) ?_
       refine AWQ.y rfl rfl (B rfl) (Yv.assign rfl (E rfl rfl)) ?_
       refine AWQ.nil ?_
       refine AW.rseq ?_
       refine AWL.y rfl rfl (B rfl) (Yv.move rfl (E rfl rfl)) ?_
       refine AWL.y rfl rfl (B rfl) (Yv.lss rfl (E rfl rfl) (E rfl rfl)) ?_
       refine AWL.y rfl rfl (B rfl) (Yv.move rfl (E rfl rfl)) ?_
       refine AWL.ygF rfl rfl rfl rfl (B rfl) (Yv.move rfl (E rfl rfl)) ?_
       refine AWL.ygF rfl rfl rfl rfl (B rfl) (Yv.gtr rfl (Eg rfl rfl id) (E rfl rfl)) ?_
       refine AWL.y rfl rfl (B rfl) (Yv.pickOr (t := .const (.bool true)) rfl (E rfl rfl) (Eg rfl rfl id)) ?_
       refine AWL.nil ?_
       refine AW.cond rfl (fun h4t => ?_) (fun h4f => ?_)
       ·
        try replace h4t := of_decide_eq_true h4t
        refine AW.rseq ?_
        refine AWL.y rfl rfl (B rfl) (Yv.move rfl (E rfl rfl)) ?_
        refine AWL.y rfl rfl (B rfl) (Yv.move rfl (E rfl rfl)) ?_
        refine AWL.y rfl rfl (B rfl) (Yv.indexRow rfl ss_51 (i := 0) rfl (E rfl rfl) (E rfl rfl) (fun hg => ⟨rfl, by omega⟩)) ?_
        refine AWL.storeEp1 (i := 0) rfl rfl rfl ag_3 rfl (E rfl rfl) (E rfl rfl) rfl rfl (by rw [List.length_map, zL_len]; omega) ?_
        refine AWL.nil ?_
        refine AW.region ?_
        refine AWL.y rfl rfl (B rfl) (Yv.assign rfl (E rfl rfl)) ?_
        refine AWL.nil ?_
        refine AW.region ?_
        refine AWL.y rfl rfl (B rfl) (Yv.move rfl (E rfl rfl)) ?_
        refine AWL.y rfl rfl (B rfl) (Yv.addN_i64 rfl (E rfl rfl) (E rfl rfl) (fun hg => by omega)) ?_
        refine AWL.y rfl rfl (B rfl) (Yv.assign rfl (E rfl rfl)) ?_
        refine AWL.nil ?_
        have hnv := newS_out (tg := tgF l) (p := plF sz) hjk hs2 h4t
        have hnv2 : ¬ newS l (tgF l) (plF sz) sz j = 2 := by rw [hnv]; split <;> decide
        have hne := mix_ne (l := l) (tg := tgF l) (p := plF sz) (show j < sz.length by omega) (by rw [hs2]; exact hnv2)
        refine ⟨j + 1, by omega, by omega, Sub.cons rfl rfl (Sub.cons rfl rfl (Sub.cons rfl rfl (Sub.cons rfl rfl (Sub.cons rfl (by rw [decide_eq_true hne]; rfl) (Sub.cons rfl (by simp) Sub.nil))))), ?_⟩
        rw [← zL_set hsl (by omega) ((jmpF_iff _).2 hjk) hnv2]
        rfl
       try replace h4f := of_decide_eq_false h4f
       refine AW.skip ?_
       refine AW.region ?_
       refine AWL.y rfl rfl (B rfl) (Yv.move rfl (E rfl rfl)) ?_
       refine AWL.y rfl rfl (B rfl) (Yv.addN_i64 rfl (E rfl rfl) (E rfl rfl) (fun hg => by omega)) ?_
       refine AWL.y rfl rfl (B rfl) (Yv.assign rfl (E rfl rfl)) ?_
       refine AWL.nil ?_
       have hsm := mix_same (l := l) (tg := tgF l) (p := plF sz) (show j < sz.length by omega) (newS_in h4f)
       refine ⟨j + 1, by omega, by omega, Sub.cons rfl rfl (Sub.cons rfl rfl (Sub.cons rfl rfl (Sub.cons rfl rfl (Sub.cons rfl (by rw [hsm]) (Sub.cons rfl (by simp) Sub.nil))))), ?_⟩
       rw [hsm] <;> rfl
      try replace h2f := of_decide_eq_false h2f
      refine AW.exit ?_
      refine AW.rseq ?_
      refine AWL.y rfl rfl (B rfl) (Yv.move rfl (E rfl rfl)) ?_
      refine AWL.y rfl rfl (B rfl) (Yv.not rfl (E rfl rfl)) ?_
      refine AWL.nil ?_
      refine AW.cond rfl (fun h5t => ?_) (fun h5f => ?_)
      ·
       try replace h5t := of_decide_eq_true h5t
       obtain rfl : j = sz.length := by have := hgi.len; omega
       rw [mix_all] at *
       have hmore : roundF l (tgF l) (plF sz) sz = sz := by simpa using h5t
       refine AW.freeze 0 4 rfl (B rfl) rfl ?_
       refine AW.freeze 1 7 rfl (B rfl) rfl ?_
       refine AW.rseq ?_
       refine AWL.y rfl rfl (B rfl) (Yv.move rfl (E rfl rfl)) ?_
       refine AWL.y rfl rfl (B rfl) (Yv.move rfl (E rfl rfl)) ?_
       refine AWL.y rfl rfl (B rfl) (Yv.assign rfl (E rfl rfl)) ?_
       refine AWL.y rfl rfl (B rfl) (Yv.assign rfl (E rfl rfl)) ?_
       refine AWL.nil ?_
       refine AW.ret (retI (.tmp rfl (.tmp rfl .nil)) ?_)
       rw [lay_exit hfu hgr hmore, hmore]
       rfl
      try replace h5f := of_decide_eq_false h5f
      obtain rfl : j = sz.length := by have := hgi.len; omega
      rw [mix_all] at *
      have hmore : roundF l (tgF l) (plF sz) sz ≠ sz := by simpa using h5f
      refine AW.dropAt 2 ?_
      refine AW.skip ?_
      obtain ⟨g, hg1, hg2⟩ := grow_go hfu hgr hmore
      exact ⟨roundF l (tgF l) (plF sz) sz, ⟨hgi.round (tgF_le l), g, hg1, hg2⟩, round_count l _ _ sz hmore, (Sub.cons rfl rfl (Sub.cons rfl rfl (Sub.cons rfl rfl Sub.nil))), rfl⟩

end Go.Proofs.Ytabkedlmpaoloaa
