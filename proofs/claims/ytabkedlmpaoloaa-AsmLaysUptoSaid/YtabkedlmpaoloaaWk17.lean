/-
  CONTRACTS of the document: what lines become; lines of their own; walked by program.
-/
import Derived.Test.YtabkedlmpaoloaaWk16
namespace Go.Proofs.Ytabkedlmpaoloaa
open Go Go.RowKit
set_option linter.unusedVariables false
set_option linter.unnecessarySimpa false
set_option linter.unusedSimpArgs false

set_option maxHeartbeats 1000000 in
theorem lent10 (l : List Line) (hl : l.length ≤ NL) :
    ACalls Try.prog 10 [linesT l] [] (fun t_ S => t_ = linesM l) := by
  have hnl : l.length ≤ 1099511627 := hl
  unfold NL at hl
  refine ACalls.intro Try.func10 rfl Try.ntmps10 (Nat.le_of_ble_eq_true rfl) rfl fun X w0 => ?_
  refine AW.rseq ?_
  refine AWL.y rfl rfl (B rfl) (Yv.assign rfl (E rfl rfl)) ?_
  refine AWL.nil ?_
  refine AW.rseq ?_
  refine AWL.y rfl rfl (B rfl) (Yv.move rfl (E rfl rfl)) ?_
  refine AWL.y rfl rfl (B rfl) (Yv.lenSl rfl so_22 (B rfl) (E rfl rfl) len_lines) ?_
  refine AWL.y rfl rfl (B rfl) (Yv.addN_i64 rfl (E rfl rfl) (E rfl rfl) (fun hg => by omega)) ?_
  refine AWL.makeRow (n := l.length + 1) (c := l.length + 1) rfl rfl (B rfl) rfl el_22 (E rfl rfl) (E rfl rfl) (by omega) (by omega) (by unfold maxLen; omega) (fun A7 => ?_)
  refine AWL.y rfl rfl (B rfl) (Yv.assign rfl (E rfl rfl)) ?_
  refine AWL.nil ?_
  refine AW.rseq ?_
  refine AWL.y rfl rfl (B rfl) (Yv.move rfl (E rfl rfl)) ?_
  refine AWL.y rfl rfl (B rfl) (Yv.move rfl (E rfl rfl)) ?_
  refine AWL.copyRowK (i := 0) rfl rfl (B rfl) rfl el_22 (B rfl) rfl (E rfl rfl) (SrcT.sl so_22 (B rfl) (E rfl rfl) len_lines) (by omega) (by omega) ?_
  refine AWL.nil ?_
  refine AW.rseq ?_
  refine AWL.y rfl rfl (B rfl) (Yv.move rfl (E rfl rfl)) ?_
  refine AWL.y rfl rfl (B rfl) (Yv.move rfl (E rfl rfl)) ?_
  refine AWL.y rfl rfl (B rfl) (Yv.lenSl rfl so_22 (B rfl) (E rfl rfl) len_lines) ?_
  refine AWL.y rfl rfl (B rfl) (Yv.indexRow (j := l.length) rfl ss_22 (i := 0) rfl (E rfl rfl) (E rfl rfl) (fun hg => ⟨rfl, by omega⟩)) ?_
  refine AWL.y rfl rfl (B rfl) (Yv.fieldEp rfl fo_32_0 (E rfl rfl)) ?_
  refine AWL.storeEp1 (i := 0) rfl rfl rfl ag_3 rfl (E rfl rfl) (E rfl rfl) rfl rfl (by rw [List.length_append, List.length_drop, len_lines, List.length_flatten]; simp; omega) ?_
  refine AWL.nil ?_
  refine AW.eqS (congrArg (fun q => [q]) (rowEq rfl (mark_cells l))) ?_
  refine AW.rseq ?_
  refine AWL.y rfl rfl (B rfl) (Yv.move rfl (E rfl rfl)) ?_
  refine AWL.y rfl rfl (B rfl) (Yv.move rfl (E rfl rfl)) ?_
  refine AWL.y rfl rfl (B rfl) (Yv.lenSl rfl so_22 (B rfl) (E rfl rfl) len_lines) ?_
  refine AWL.y rfl rfl (B rfl) (Yv.sliceRow0 (m := l.length) (i := 0) rfl ss_22 rfl (E rfl rfl) (Bound.some_ (E rfl rfl) (fun _ => rfl)) (fun hg => by omega)) ?_
  refine AWL.freezeSp 0 19 rfl (B rfl) (by omega) (by omega) rfl ?_
  refine AWL.y rfl rfl (B rfl) (Yv.assign rfl (E rfl rfl)) ?_
  refine AWL.nil ?_
  refine AW.ret (retI (.tmp rfl .nil) ?_)
  rfl

theorem fl2_32 : flatOf2 Try.prog 32 = some [(0, .c .i), (1, .st 6 [(0, .i), (1, .i), (2, .i), (3, .i), (4, .i), (5, .i)]), (7, .c .i), (8, .c .i), (9, .c .i)] := by kernel_rfl
set_option maxHeartbeats 1000000 in
theorem kept18 (l m : List Line) (hl : l.length ≤ NL) (hm : m.length ≤ NL) :
    ACalls Try.prog 18 [linesM l, linesT m] [] fun t_ S => t_ = .v (.bool (decide (l = m))) := by
  have hnl : l.length ≤ 1099511627 := hl
  unfold NL at hl
  unfold NL at hm
  refine ACalls.intro Try.func18 rfl Try.ntmps18 (Nat.le_of_ble_eq_true rfl) rfl fun X w0 => ?_
  refine AW.rseq ?_
  refine AWL.y rfl rfl (B rfl) (Yv.assign rfl (E rfl rfl)) ?_
  refine AWL.nil ?_
  refine AW.seq ?_
  refine AW.rseq ?_
  refine AWL.y rfl rfl (B rfl) (Yv.move rfl (E rfl rfl)) ?_
  refine AWL.y rfl rfl (B rfl) (Yv.lenSp rfl so_22 (E rfl rfl)) ?_
  refine AWL.y rfl rfl (B rfl) (Yv.move rfl (E rfl rfl)) ?_
  refine AWL.y rfl rfl (B rfl) (Yv.lenSl rfl so_22 (B rfl) (E rfl rfl) len_lines) ?_
  refine AWL.y rfl rfl (B rfl) (Yv.neq rfl (E rfl rfl) (E rfl rfl)) ?_
  refine AWL.y rfl rfl (B rfl) (Yv.move rfl (E rfl rfl)) ?_
  refine AWL.ygF rfl rfl rfl rfl (B rfl) (Yv.move rfl (E rfl rfl)) ?_
  refine AWL.ygF rfl rfl rfl rfl (B rfl) (Yv.move rfl (E rfl rfl)) ?_
  refine AWL.ygF rfl rfl rfl rfl (B rfl) (Yv.lenSp rfl so_22 (Eg rfl rfl id)) ?_
  refine AWL.ygF rfl rfl rfl rfl (B rfl) (Yv.addN_i64 rfl (Eg rfl rfl id) (E rfl rfl) (fun hg => by first | omega | (simp only [Bool.and_eq_true, Bool.or_eq_false_iff, Bool.not_eq_true', Bool.not_eq_false', decide_eq_true_eq, decide_eq_false_iff_not] at hg; omega))) ?_
  refine AWL.ygF rfl rfl rfl rfl (B rfl) (Yv.sliceSp (hi := l.length + 1) rfl ss_22 (B rfl) (Eg rfl rfl id) (Bound.some_ (Eg rfl rfl id) (fun _ => rfl)) (fun hg => by rw [mark_len]; omega)) ?_
  refine AWL.ygF rfl rfl rfl rfl (B rfl) (Yv.move rfl (E rfl rfl)) ?_
  refine AWL.ygF rfl rfl rfl rfl (B rfl) (Yv.lenSp rfl so_22 (Eg rfl rfl id)) ?_
  refine AWL.ygF rfl rfl rfl rfl (B rfl) (Yv.indexSl (j := l.length) rfl ss_22 (B rfl) (Eg rfl rfl id) (Eg rfl rfl id) (fun hg => ⟨rfl, by rw [List.length_take, mark_len]; omega⟩)) ?_
  refine AWL.ygF rfl rfl rfl rfl (B rfl) (Yv.fieldRp rfl fo_32_0 (Eg rfl rfl id)) ?_
  refine AWL.ygF rfl rfl rfl rfl (B rfl) (Yv.loadRp rfl ag_3 (Eg rfl rfl id) (fun hg => mark_at _)) ?_
  refine AWL.ygF rfl rfl rfl rfl (B rfl) (Yv.neq rfl (Eg rfl rfl id) (E rfl rfl)) ?_
  refine AWL.y rfl rfl (B rfl) (Yv.pickOr (t := .const (.bool true)) rfl (E rfl rfl) (Eg rfl rfl id)) ?_
  refine AWL.nil ?_
  refine AW.cond rfl (fun h0t => ?_) (fun h0f => ?_)
  ·
   try replace h0t := of_decide_eq_true h0t
   have hle : ¬ l.length = m.length := by intro q; rw [q] at h0t; simp at h0t
   refine AW.rseq ?_
   refine AWL.y rfl rfl (B rfl) (Yv.assign rfl (E rfl rfl)) ?_
   refine AWL.nil ?_
   refine AW.ret (retI (.tmp rfl .nil) ?_)
   rw [decide_eq_false (fun q => hle (by rw [q]))]
   rfl
  try replace h0f := of_decide_eq_false h0f
  have hle : l.length = m.length := by simp only [Bool.or_eq_true, Bool.and_eq_true, Bool.or_eq_false_iff, Bool.and_eq_false_iff, Bool.not_eq_true', Bool.not_eq_false', decide_eq_true_eq, decide_eq_false_iff_not, Decidable.not_not] at h0f; omega
  refine AW.skip ?_
  refine AW.seq ?_
  refine AW.retype (k := 0) (t' := linesT l) rfl (linesM_le l) ?_
  refine AW.rseq ?_
  refine AWL.y rfl rfl (B rfl) (Yv.assign rfl (E rfl rfl)) ?_
  refine AWL.nil ?_
  refine AW.block ?_
  refine AW.loop (fun (j : Nat) => [(0, true, linesT l), (1, true, linesT m), (5, true, .v (.int .i64 (j : Int)))]) (fun (j : Nat) => []) (fun (j : Nat) => j ≤ l.length ∧ l.take j = m.take j) (fun (j : Nat) => l.length - j) 0 ?_ ?_ ?_ ?_
  · exact ⟨Nat.zero_le _, rfl⟩
  · exact (Sub.cons rfl rfl (Sub.cons rfl rfl (Sub.cons rfl rfl Sub.nil)))
  · rfl
  ·
   intro j hinv
   obtain ⟨hj, hpre⟩ := hinv
   refine AW.seq ?_
   refine AW.rseq ?_
   refine AWL.y rfl rfl (B rfl) (Yv.move rfl (E rfl rfl)) ?_
   refine AWL.y rfl rfl (B rfl) (Yv.move rfl (E rfl rfl)) ?_
   refine AWL.y rfl rfl (B rfl) (Yv.lenSl rfl so_22 (B rfl) (E rfl rfl) len_lines) ?_
   refine AWL.y rfl rfl (B rfl) (Yv.lss rfl (E rfl rfl) (E rfl rfl)) ?_
   refine AWL.nil ?_
   refine AW.cond rfl (fun h1t => ?_) (fun h1f => ?_)
   ·
    try replace h1t := of_decide_eq_true h1t
    refine AW.skip ?_
    refine AW.seq ?_
    refine AW.block ?_
    refine AW.rseqQ rfl (by kernel_rfl) ?_
    refine AWQ.y rfl rfl (B rfl) (Yv.move rfl (E rfl rfl)) ?_
    refine AWQ.y rfl rfl (B rfl) (Yv.move rfl (E rfl rfl)) ?_
    refine AWQ.y rfl rfl (B rfl) (Yv.indexSl rfl ss_22 (B rfl) (E rfl rfl) (E rfl rfl) (fun hg => ⟨rfl, (by first | omega | (simp only [len_lines, len_inss, len_zu, len_ints, len_u8s, len_zq, len_forms]; omega))⟩)) ?_
    refine AWQ.y rfl rfl (B rfl) (Yv.loadRpA rfl ag_32 (E rfl rfl) (fun hg => line_get (by omega))) ?_
    refine AWQ.y rfl rfl (B rfl) (Yv.move rfl (E rfl rfl)) ?_
    refine AWQ.y rfl rfl (B rfl) (Yv.move rfl (E rfl rfl)) ?_
    refine AWQ.y rfl rfl (B rfl) (Yv.indexSl rfl ss_22 (B rfl) (E rfl rfl) (E rfl rfl) (fun hg => ⟨rfl, (by first | omega | (simp only [len_lines, len_inss, len_zu, len_ints, len_u8s, len_zq, len_forms]; omega))⟩)) ?_
    refine AWQ.y rfl rfl (B rfl) (Yv.loadRpA rfl ag_32 (E rfl rfl) (fun hg => line_get (by omega))) ?_
    refine AWQ.y rfl rfl (B rfl) (Yv.neqA2 (us := lineVals (l.getD j default)) (vs := lineVals (m.getD j default)) rfl fl2_32 (E rfl rfl) (E rfl rfl) rfl rfl (line_eq (l.getD j default) (m.getD j default))) ?_
    refine AWQ.nil ?_
    refine AW.cond rfl (fun h2t => ?_) (fun h2f => ?_)
    ·
     try replace h2t := of_decide_eq_true h2t
     have heq : ¬ l.getD j default = m.getD j default := by simpa using h2t
     refine AW.rseq ?_
     refine AWL.y rfl rfl (B rfl) (Yv.assign rfl (E rfl rfl)) ?_
     refine AWL.nil ?_
     refine AW.ret (retI (.tmp rfl .nil) ?_)
     rw [decide_eq_false (fun q => heq (by rw [q]))]
     rfl
    try replace h2f := of_decide_eq_false h2f
    have heq : l.getD j default = m.getD j default := by simpa using h2f
    refine AW.skip ?_
    refine AW.region ?_
    refine AWL.y rfl rfl (B rfl) (Yv.move rfl (E rfl rfl)) ?_
    refine AWL.y rfl rfl (B rfl) (Yv.addN_i64 rfl (E rfl rfl) (E rfl rfl) (fun hg => by omega)) ?_
    refine AWL.y rfl rfl (B rfl) (Yv.assign rfl (E rfl rfl)) ?_
    refine AWL.nil ?_
    refine ⟨j + 1, ⟨by omega, by rw [take_getD (show j < l.length by omega), take_getD (show j < m.length by omega), hpre, heq]⟩, by omega, Sub.cons rfl rfl (Sub.cons rfl rfl (Sub.cons rfl (by simp) Sub.nil)), rfl⟩
   try replace h1f := of_decide_eq_false h1f
   refine AW.exit ?_
   refine AW.rseq ?_
   refine AWL.y rfl rfl (B rfl) (Yv.assign rfl (E rfl rfl)) ?_
   refine AWL.nil ?_
   refine AW.ret (retI (.tmp rfl .nil) ?_)
   obtain rfl : j = l.length := by omega
   rw [List.take_length, hle, List.take_length] at hpre
   rw [decide_eq_true hpre]
   rfl

set_option maxHeartbeats 4000000 in
theorem refResolve11 (l : List Line) (hl : l.length ≤ NL) (at_ : Int) (f0 : 0 ≤ at_) :
    ACalls Try.prog 11 [linesT l, .v (.int .u64 at_)] [] (fun t_ S => t_ = .tup [inssT (resL l at_), .v (.int .i64 (laidE l at_))]) := by
  have hnl : l.length ≤ 1099511627 := hl
  unfold NL at hl
  have hpb := plF_bound (sizesF_le l) (by rw [sizesF_len]; omega)
  have hsl := sizesF_len l
  have hpl : (plF (sizesF l)).length = l.length + 1 := by rw [plF_len, hsl]
  have hzl := zL_len l (sizesF l)
  have hpn := plF_get (sizesF l) (k := l.length) (by omega)
  have hpbn := hpb l.length
  refine ACalls.intro Try.func11 rfl Try.ntmps11 (Nat.le_of_ble_eq_true rfl) rfl fun X w0 => ?_
  refine AW.rseq ?_
  refine AWL.y rfl rfl (B rfl) (Yv.assign rfl (E rfl rfl)) ?_
  refine AWL.y rfl rfl (B rfl) (Yv.assign rfl (E rfl rfl)) ?_
  refine AWL.nil ?_
  refine AW.rseq ?_
  refine AWL.y rfl rfl (B rfl) (Yv.move rfl (E rfl rfl)) ?_
  refine AWL.callP rfl rfl (B rfl) rfl ce_13 (E rfl rfl) (evsC (E rfl rfl) evs0) (refCheck13 l (by unfold NL; omega)) (fun t S h => h) ?_
  refine AWL.y rfl rfl (B rfl) (Yv.assign rfl (E rfl rfl)) ?_
  refine AWL.nil ?_
  refine AW.seq ?_
  refine AW.rseq ?_
  refine AWL.y rfl rfl (B rfl) (Yv.move rfl (E rfl rfl)) ?_
  refine AWL.y rfl rfl (B rfl) (Yv.neq rfl (E rfl rfl) (E rfl rfl)) ?_
  refine AWL.nil ?_
  refine AW.cond rfl (fun h0t => ?_) (fun h0f => ?_)
  ·
   try replace h0t := of_decide_eq_true h0t
   have hle : ¬ laidE l at_ = 0 := by rw [laidE, if_pos (by simpa using h0t)]; simpa using h0t
   have hlx : laidE l at_ = checkF l := by rw [laidE, if_pos (by simpa using h0t)]
   refine AW.rseq ?_
   refine AWL.y rfl rfl (B rfl) (Yv.move rfl (E rfl rfl)) ?_
   refine AWL.y rfl rfl (B rfl) (Yv.assign rfl (E rfl rfl)) ?_
   refine AWL.y rfl rfl (B rfl) (Yv.assign rfl (E rfl rfl)) ?_
   refine AWL.nil ?_
   refine AW.retype (k := 4) (t' := inssT []) rfl (nil_sl (by decide)) ?_
   refine AW.ret (retI (.tmp rfl (.tmp rfl .nil)) ?_)
   rw [resL_no hle, hlx]
   rfl
  try replace h0f := of_decide_eq_false h0f
  have hck : checkF l = 0 := by simpa using h0f
  refine AW.skip ?_
  refine AW.rseq ?_
  refine AWL.y rfl rfl (B rfl) (Yv.move rfl (E rfl rfl)) ?_
  refine AWL.callT rfl rfl (B rfl) rfl ce_24 (E rfl rfl) (evsC (E rfl rfl) evs0) (refLay24 l (by unfold NL; omega) hck) ?_
  rintro t24 S24 rfl
  refine AWL.y rfl rfl (B rfl) (Yv.move rfl (E rfl rfl)) ?_
  refine AWL.y rfl rfl (B rfl) (Yv.extract rfl (E rfl rfl) rfl) ?_
  refine AWL.y rfl rfl (B rfl) (Yv.extract rfl (E rfl rfl) rfl) ?_
  refine AWL.y rfl rfl (B rfl) (Yv.assign rfl (E rfl rfl)) ?_
  refine AWL.y rfl rfl (B rfl) (Yv.assign rfl (E rfl rfl)) ?_
  refine AWL.nil ?_
  refine AW.rseq ?_
  refine AWL.y rfl rfl (B rfl) (Yv.move rfl (E rfl rfl)) ?_
  refine AWL.y rfl rfl (B rfl) (Yv.move rfl (E rfl rfl)) ?_
  refine AWL.y rfl rfl (B rfl) (Yv.move rfl (E rfl rfl)) ?_
  refine AWL.y rfl rfl (B rfl) (Yv.lenSl rfl so_22 (B rfl) (E rfl rfl) len_lines) ?_
  refine AWL.y rfl rfl (B rfl) (Yv.indexSl (j := l.length) rfl ss_55 (B rfl) (E rfl rfl) (E rfl rfl) (fun hg => ⟨rfl, by simp only [List.length_map]; omega⟩)) ?_
  refine AWL.y rfl rfl (B rfl) (Yv.loadRp rfl ag_2 (E rfl rfl) (fun hg => zi_get (by omega))) ?_
  refine AWL.callP rfl rfl (B rfl) rfl ce_25 (E rfl rfl) (evsC (E rfl rfl) (evsC (E rfl rfl) evs0)) (far25 at_ ((plF (sizesF l)).getD l.length 0 : Nat) f0 (by omega) (by omega)) (fun t S h => h) ?_
  refine AWL.y rfl rfl (B rfl) (Yv.assign rfl (E rfl rfl)) ?_
  refine AWL.nil ?_
  refine AW.seq ?_
  refine AW.rseq ?_
  refine AWL.y rfl rfl (B rfl) (Yv.move rfl (E rfl rfl)) ?_
  refine AWL.nil ?_
  refine AW.cond rfl (fun h1t => ?_) (fun h1f => ?_)
  ·
   try replace h1t := of_decide_eq_true h1t
   have hfar : farE at_ (pre (sizesF l) l.length) = true := by rw [← hpn]; exact h1t
   have hlx : laidE l at_ = 221 := by rw [laidE, if_neg (fun q => q hck), if_pos hfar]
   have hle : ¬ laidE l at_ = 0 := by rw [hlx]; decide
   refine AW.rseq ?_
   refine AWL.y rfl rfl (B rfl) (Yv.assign rfl (E rfl rfl)) ?_
   refine AWL.y rfl rfl (B rfl) (Yv.assign rfl (E rfl rfl)) ?_
   refine AWL.nil ?_
   refine AW.retype (k := 4) (t' := inssT []) rfl (nil_sl (by decide)) ?_
   refine AW.ret (retI (.tmp rfl (.tmp rfl .nil)) ?_)
   rw [resL_no hle, hlx]
   rfl
  try replace h1f := of_decide_eq_false h1f
  have hfar : ¬ farE at_ (pre (sizesF l) l.length) = true := by rw [← hpn]; exact fun q => Bool.noConfusion (q.symm.trans h1f)
  have hle : laidE l at_ = 0 := by rw [laidE, if_neg (fun q => q hck), if_neg hfar]
  obtain ⟨_, hat1, hat2⟩ := laidE_at hle
  refine AW.skip ?_
  refine AW.rseq ?_
  refine AWL.y rfl rfl (B rfl) (Yv.assign rfl (E rfl rfl)) ?_
  refine AWL.nil ?_
  refine AW.rowNil 30 6 ?_
  refine AW.seq ?_
  refine AW.rseq ?_
  refine AWL.y rfl rfl (B rfl) (Yv.assign rfl (E rfl rfl)) ?_
  refine AWL.nil ?_
  refine AW.block ?_
  refine AW.loop3 (fun (j : Nat) (Ao : Option Addr) (co : Nat) => [(0, true, linesT l), (1, true, .v (.int .u64 at_)), (7, true, .sl 1 ((zL l (sizesF l)).map zi)), (8, true, .sl 1 ((plF (sizesF l)).map zi)), (10, true, .v (.slice Ao (outN l (tgF l) (sizesF l) at_ j).length co)), (11, true, .v (.int .i64 (j : Int)))]) (fun (j : Nat) (Ao : Option Addr) (co : Nat) => [.row Ao (outN l (tgF l) (sizesF l) at_ j).length co 30 6 ((outN l (tgF l) (sizesF l) at_ j).flatMap insCells)]) (fun (j : Nat) (Ao : Option Addr) (co : Nat) => j ≤ l.length) (fun (j : Nat) (Ao : Option Addr) (co : Nat) => l.length - j) 0 none 0 ?_ ?_ ?_ ?_
  · exact Nat.zero_le _
  · exact (Sub.cons rfl rfl (Sub.cons rfl rfl (Sub.cons rfl rfl (Sub.cons rfl rfl (Sub.cons rfl rfl (Sub.cons rfl rfl Sub.nil))))))
  · rfl
  ·
   intro j Ao co hinv
   have hol := outN_len l (tgF l) (sizesF l) at_ j
   refine AW.seq ?_
   refine AW.rseq ?_
   refine AWL.y rfl rfl (B rfl) (Yv.move rfl (E rfl rfl)) ?_
   refine AWL.y rfl rfl (B rfl) (Yv.move rfl (E rfl rfl)) ?_
   refine AWL.y rfl rfl (B rfl) (Yv.lenSl rfl so_22 (B rfl) (E rfl rfl) len_lines) ?_
   refine AWL.y rfl rfl (B rfl) (Yv.lss rfl (E rfl rfl) (E rfl rfl)) ?_
   refine AWL.nil ?_
   refine AW.cond rfl (fun h2t => ?_) (fun h2f => ?_)
   ·
    try replace h2t := of_decide_eq_true h2t
    refine AW.skip ?_
    refine AW.seq ?_
    refine AW.block ?_
    refine AW.rseq ?_
    refine AWL.y rfl rfl (B rfl) (Yv.assign rfl (E rfl rfl)) ?_
    refine AWL.nil ?_
    refine AW.rseq ?_
    refine AWL.y rfl rfl (B rfl) (Yv.assign rfl (E rfl rfl)) ?_
    refine AWL.nil ?_
    refine AW.rseq ?_
    refine AWL.y rfl rfl (B rfl) (Yv.move rfl (E rfl rfl)) ?_
    refine AWL.y rfl rfl (B rfl) (Yv.move rfl (E rfl rfl)) ?_
    refine AWL.y rfl rfl (B rfl) (Yv.move rfl (E rfl rfl)) ?_
    refine AWL.y rfl rfl (B rfl) (Yv.indexSl rfl ss_22 (B rfl) (E rfl rfl) (E rfl rfl) (fun hg => ⟨rfl, (by first | omega | (simp only [len_lines, len_inss, len_zu, len_ints, len_u8s, len_zq, len_forms]; omega))⟩)) ?_
    refine AWL.y rfl rfl (B rfl) (Yv.fieldRp rfl fo_32_2 (E rfl rfl)) ?_
    refine AWL.y rfl rfl (B rfl) (Yv.loadRp rfl ag_3 (E rfl rfl) (fun hg => line_at7 (by omega))) ?_
    refine AWL.callP rfl rfl (B rfl) rfl ce_20 (E rfl rfl) (evsC (E rfl rfl) (evsC (E rfl rfl) evs0)) (where20 l (by unfold NL; omega) (l.getD j default).l) (fun t S h => h) ?_
    refine AWL.y rfl rfl (B rfl) (Yv.assign rfl (E rfl rfl)) ?_
    refine AWL.nil ?_
    refine AW.mid (α := Int × Int) (fun q => [(0, true, linesT l), (1, true, .v (.int .u64 at_)), (7, true, .sl 1 ((zL l (sizesF l)).map zi)), (8, true, .sl 1 ((plF (sizesF l)).map zi)), (10, true, .v (.slice Ao (outN l (tgF l) (sizesF l) at_ j).length co)), (11, true, .v (.int .i64 (j : Int))), (12, true, .v (.int .i64 q.1)), (13, true, .v (.int .i64 q.2))]) (fun q => [.row Ao (outN l (tgF l) (sizesF l) at_ j).length co 30 6 ((outN l (tgF l) (sizesF l) at_ j).flatMap insCells)]) (fun q => goesF (l.getD j default).kind = true → q.1 = wayF (tgF l) (plF (sizesF l)) j ∧ q.2 = at_ + ((plF (sizesF l)).getD ((tgF l).getD j 0) 0 : Nat)) ?_ ?_
    ·
     refine AW.rseq ?_
     refine AWL.y rfl rfl (B rfl) (Yv.move rfl (E rfl rfl)) ?_
     refine AWL.y rfl rfl (B rfl) (Yv.geq rfl (E rfl rfl) (E rfl rfl)) ?_
     refine AWL.nil ?_
     refine AW.cond rfl (fun h3t => ?_) (fun h3f => ?_)
     ·
      try replace h3t := of_decide_eq_true h3t
      obtain ⟨v, hwv, hvl⟩ : ∃ v : Nat, whereF l (l.getD j default).l = v ∧ v < l.length := by
        rcases where_cases l (l.getD j default).l with ⟨q, _⟩ | ⟨v, q, h, _⟩
        · omega
        · exact ⟨v, q, h⟩
      have hpv := hpb v
      have hpj := hpb (j + 1)
      rw [hwv]
      refine AW.rseqQ rfl (by kernel_rfl) ?_
      refine AWQ.y rfl rfl (B rfl) (Yv.move rfl (E rfl rfl)) ?_
      refine AWQ.y rfl rfl (B rfl) (Yv.move rfl (E rfl rfl)) ?_
      refine AWQ.y rfl rfl (B rfl) (Yv.indexSl (j := v) rfl ss_55 (B rfl) (E rfl rfl) (E rfl rfl) (fun hg => ⟨rfl, by simp only [List.length_map]; omega⟩)) ?_
      refine AWQ.y rfl rfl (B rfl) (Yv.loadRp rfl ag_2 (E rfl rfl) (fun hg => zi_get (by omega))) ?_
      refine AWQ.y rfl rfl (B rfl) (Yv.move rfl (E rfl rfl)) ?_
      refine AWQ.y rfl rfl (B rfl) (Yv.move rfl (E rfl rfl)) ?_
      refine AWQ.y rfl rfl (B rfl) (Yv.addN_i64 rfl (E rfl rfl) (E rfl rfl) (fun hg => by omega)) ?_
      refine AWQ.y rfl rfl (B rfl) (Yv.indexSl (j := (j + 1)) rfl ss_55 (B rfl) (E rfl rfl) (E rfl rfl) (fun hg => ⟨by omega, by simp only [List.length_map]; omega⟩)) ?_
      refine AWQ.y rfl rfl (B rfl) (Yv.loadRp rfl ag_2 (E rfl rfl) (fun hg => zi_get (by omega))) ?_
      refine AWQ.y rfl rfl (B rfl) (Yv.subN_i64 rfl (E rfl rfl) (E rfl rfl) (fun hg => by omega)) ?_
      refine AWQ.y rfl rfl (B rfl) (Yv.assign rfl (E rfl rfl)) ?_
      refine AWQ.nil ?_
      refine AW.region ?_
      refine AWL.y rfl rfl (B rfl) (Yv.move rfl (E rfl rfl)) ?_
      refine AWL.y rfl rfl (B rfl) (Yv.convN_i64 rfl Try.underlying23 kd_2 (E rfl rfl) (fun hg => by omega)) ?_
      refine AWL.y rfl rfl (B rfl) (Yv.move rfl (E rfl rfl)) ?_
      refine AWL.y rfl rfl (B rfl) (Yv.move rfl (E rfl rfl)) ?_
      refine AWL.y rfl rfl (B rfl) (Yv.indexSl (j := v) rfl ss_55 (B rfl) (E rfl rfl) (E rfl rfl) (fun hg => ⟨rfl, by simp only [List.length_map]; omega⟩)) ?_
      refine AWL.y rfl rfl (B rfl) (Yv.loadRp rfl ag_2 (E rfl rfl) (fun hg => zi_get (by omega))) ?_
      refine AWL.y rfl rfl (B rfl) (Yv.addN_i64 rfl (E rfl rfl) (E rfl rfl) (fun hg => by omega)) ?_
      refine AWL.y rfl rfl (B rfl) (Yv.assign rfl (E rfl rfl)) ?_
      refine AWL.nil ?_
      refine ⟨⟨((plF (sizesF l)).getD v 0 : Int) - ((plF (sizesF l)).getD (j + 1) 0 : Nat), at_ + ((plF (sizesF l)).getD v 0 : Nat)⟩, fun hg => ?_, Sub.cons rfl rfl (Sub.cons rfl rfl (Sub.cons rfl rfl (Sub.cons rfl rfl (Sub.cons rfl rfl (Sub.cons rfl rfl (Sub.cons rfl rfl (Sub.cons rfl rfl Sub.nil))))))), rfl⟩
      have hvt : v = (tgF l).getD j 0 := by have := jmp_where hck (show j < l.length by omega) hg; omega
      subst hvt
      exact ⟨rfl, rfl⟩
     try replace h3f := of_decide_eq_false h3f
     refine AW.skip ?_
     refine ⟨⟨0, 0⟩, fun hg => ?_, Sub.cons rfl rfl (Sub.cons rfl rfl (Sub.cons rfl rfl (Sub.cons rfl rfl (Sub.cons rfl rfl (Sub.cons rfl rfl (Sub.cons rfl rfl (Sub.cons rfl rfl Sub.nil))))))), rfl⟩
     have := jmp_where hck (show j < l.length by omega) hg
     omega
    ·
     rintro q hq
     have hli := line_ins hck (show j < l.length by omega) (at_ := at_) hq
     refine AW.mid (α := Nat) (fun b15 => [(0, true, linesT l), (1, true, .v (.int .u64 at_)), (7, true, .sl 1 ((zL l (sizesF l)).map zi)), (8, true, .sl 1 ((plF (sizesF l)).map zi)), (10, true, .v (.slice Ao (outN l (tgF l) (sizesF l) at_ j).length co)), (11, true, .v (.int .i64 (j : Int))), (15, true, .v (.pointer (some ⟨b15, 0, none⟩))), (16, true, .v (.bool (insAt l (tgF l) (sizesF l) at_ j).isSome))]) (fun b15 => [.row Ao (outN l (tgF l) (sizesF l) at_ j).length co 30 6 ((outN l (tgF l) (sizesF l) at_ j).flatMap insCells), .box b15 30 (insCells ((insAt l (tgF l) (sizesF l) at_ j).getD noIns))]) (fun _ => True) ?_ ?_
     ·
      refine AW.regionP rfl ?_
      refine AWP.take (i := 0) rfl (by kernel_rfl) (by kernel_rfl) (by kernel_rfl) rfl rfl (B rfl) (freeMove rfl (E rfl rfl)) ?_
      refine AWP.take (i := 1) rfl (by kernel_rfl) (by kernel_rfl) (by kernel_rfl) rfl rfl (B rfl) (freeMove rfl (E rfl rfl)) ?_
      refine AWP.take (i := 2) rfl (by kernel_rfl) (by kernel_rfl) (by kernel_rfl) rfl rfl (B rfl) (freeIdxSl (j := j) rfl ss_22 (B rfl) (E rfl rfl) (E rfl rfl) ⟨rfl, by simp only [len_lines]; omega⟩) ?_
      refine AWP.take (i := 4) rfl (by kernel_rfl) (by kernel_rfl) (by kernel_rfl) rfl rfl (B rfl) (freeMove rfl (E rfl rfl)) ?_
      refine AWP.take (i := 5) rfl (by kernel_rfl) (by kernel_rfl) (by kernel_rfl) rfl rfl (B rfl) (freeMove rfl (E rfl rfl)) ?_
      refine AWP.take (i := 6) rfl (by kernel_rfl) (by kernel_rfl) (by kernel_rfl) rfl rfl (B rfl) (freeIdxSl (j := j) rfl ss_51 (B rfl) (E rfl rfl) (E rfl rfl) ⟨rfl, by simp only [List.length_map]; omega⟩) ?_
      refine AWP.take (i := 8) rfl (by kernel_rfl) (by kernel_rfl) (by kernel_rfl) rfl rfl (B rfl) (freeMove rfl (E rfl rfl)) ?_
      refine AWP.take (i := 9) rfl (by kernel_rfl) (by kernel_rfl) (by kernel_rfl) rfl rfl (B rfl) (freeMove rfl (E rfl rfl)) ?_
      refine AWP.three (i := 3) (j := 7) (k := 14) (by kernel_rfl) rfl rfl rfl ?_ ?_ ?_
      ·
       refine AWL.y rfl rfl (B rfl) (Yv.loadRpA rfl ag_32 (E rfl rfl) (fun hg => line_get (by omega))) ?_
       refine AWL.nil ?_
       refine AWP.two (i := 7) (j := 14) (by kernel_rfl) rfl rfl ?_ ?_
       ·
        refine AWL.y rfl rfl (B rfl) (Yv.loadRp rfl ag_3 (E rfl rfl) (fun hg => zi_get (by omega))) ?_
        refine AWL.nil ?_
        refine AWP.two (i := 10) (j := 14) (by kernel_rfl) rfl rfl ?_ ?_
        ·
         refine AWL.callT rfl rfl (B rfl) rfl ce_26 (E rfl rfl) (evsC (E rfl rfl) (evsC (E rfl rfl) (evsC (E rfl rfl) (evsC (E rfl rfl) evs0)))) (line26 (l.getD j default) (((zL l (sizesF l)).getD j 0 : Nat) : Int) q.1 q.2) ?_
         rintro t78 S78 rfl
         refine AWL.nil ?_
         refine AWP.take (i := 11) rfl (by kernel_rfl) (by kernel_rfl) (by kernel_rfl) rfl rfl (B rfl) (freeMove rfl (E rfl rfl)) ?_
         refine AWP.take (i := 12) rfl (by kernel_rfl) (by kernel_rfl) (by kernel_rfl) rfl rfl (B rfl) (freeExtract rfl (E rfl rfl) rfl) ?_
         refine AWP.take (i := 13) rfl (by kernel_rfl) (by kernel_rfl) (by kernel_rfl) rfl rfl (B rfl) (freeExtract rfl (E rfl rfl) rfl) ?_
         refine AWP.one (i := 14) (by kernel_rfl) rfl ?_
         refine AWL.allocOp rfl rfl (B rfl) rfl zc_30 (fun b15 => ?_)
         refine AWL.nil ?_
         refine AWP.one (i := 15) (by kernel_rfl) rfl ?_
         refine AWL.storeBox (i := 1) rfl rfl rfl ag_30 rfl (E rfl rfl) (E rfl rfl) rfl rfl (Nat.le_of_ble_eq_true rfl) ?_
         refine AWL.nil ?_
         refine AWP.one (i := 16) (by kernel_rfl) rfl ?_
         refine AWL.y rfl rfl (B rfl) (Yv.assign rfl (E rfl rfl)) ?_
         refine AWL.nil ?_
         refine AWP.done (by kernel_rfl) ?_
         refine ⟨b15, trivial, (Sub.cons rfl rfl (Sub.cons rfl rfl (Sub.cons rfl rfl (Sub.cons rfl rfl (Sub.cons rfl rfl (Sub.cons rfl rfl (Sub.cons rfl rfl (Sub.cons rfl (by rw [← hli]) Sub.nil)))))))), ?_⟩
         rw [← hli]
         rfl
        ·
         refine AWL.allocOp rfl rfl (B rfl) rfl zc_30 (fun b15 => ?_)
         refine AWL.nil ?_
         refine AWP.one (i := 10) (by kernel_rfl) rfl ?_
         refine AWL.callT rfl rfl (B rfl) rfl ce_26 (E rfl rfl) (evsC (E rfl rfl) (evsC (E rfl rfl) (evsC (E rfl rfl) (evsC (E rfl rfl) evs0)))) (line26 (l.getD j default) (((zL l (sizesF l)).getD j 0 : Nat) : Int) q.1 q.2) ?_
         rintro t78 S78 rfl
         refine AWL.nil ?_
         refine AWP.one (i := 11) (by kernel_rfl) rfl ?_
         refine AWL.y rfl rfl (B rfl) (Yv.move rfl (E rfl rfl)) ?_
         refine AWL.nil ?_
         refine AWP.take (i := 12) rfl (by kernel_rfl) (by kernel_rfl) (by kernel_rfl) rfl rfl (B rfl) (freeExtract rfl (E rfl rfl) rfl) ?_
         refine AWP.take (i := 13) rfl (by kernel_rfl) (by kernel_rfl) (by kernel_rfl) rfl rfl (B rfl) (freeExtract rfl (E rfl rfl) rfl) ?_
         refine AWP.one (i := 15) (by kernel_rfl) rfl ?_
         refine AWL.storeBox (i := 1) rfl rfl rfl ag_30 rfl (E rfl rfl) (E rfl rfl) rfl rfl (Nat.le_of_ble_eq_true rfl) ?_
         refine AWL.nil ?_
         refine AWP.one (i := 16) (by kernel_rfl) rfl ?_
         refine AWL.y rfl rfl (B rfl) (Yv.assign rfl (E rfl rfl)) ?_
         refine AWL.nil ?_
         refine AWP.done (by kernel_rfl) ?_
         refine ⟨b15, trivial, (Sub.cons rfl rfl (Sub.cons rfl rfl (Sub.cons rfl rfl (Sub.cons rfl rfl (Sub.cons rfl rfl (Sub.cons rfl rfl (Sub.cons rfl rfl (Sub.cons rfl (by rw [← hli]) Sub.nil)))))))), ?_⟩
         rw [← hli]
         rfl
       ·
        refine AWL.allocOp rfl rfl (B rfl) rfl zc_30 (fun b15 => ?_)
        refine AWL.nil ?_
        refine AWP.one (i := 7) (by kernel_rfl) rfl ?_
        refine AWL.y rfl rfl (B rfl) (Yv.loadRp rfl ag_3 (E rfl rfl) (fun hg => zi_get (by omega))) ?_
        refine AWL.nil ?_
        refine AWP.one (i := 10) (by kernel_rfl) rfl ?_
        refine AWL.callT rfl rfl (B rfl) rfl ce_26 (E rfl rfl) (evsC (E rfl rfl) (evsC (E rfl rfl) (evsC (E rfl rfl) (evsC (E rfl rfl) evs0)))) (line26 (l.getD j default) (((zL l (sizesF l)).getD j 0 : Nat) : Int) q.1 q.2) ?_
        rintro t78 S78 rfl
        refine AWL.nil ?_
        refine AWP.one (i := 11) (by kernel_rfl) rfl ?_
        refine AWL.y rfl rfl (B rfl) (Yv.move rfl (E rfl rfl)) ?_
        refine AWL.nil ?_
        refine AWP.take (i := 12) rfl (by kernel_rfl) (by kernel_rfl) (by kernel_rfl) rfl rfl (B rfl) (freeExtract rfl (E rfl rfl) rfl) ?_
        refine AWP.take (i := 13) rfl (by kernel_rfl) (by kernel_rfl) (by kernel_rfl) rfl rfl (B rfl) (freeExtract rfl (E rfl rfl) rfl) ?_
        refine AWP.one (i := 15) (by kernel_rfl) rfl ?_
        refine AWL.storeBox (i := 1) rfl rfl rfl ag_30 rfl (E rfl rfl) (E rfl rfl) rfl rfl (Nat.le_of_ble_eq_true rfl) ?_
        refine AWL.nil ?_
        refine AWP.one (i := 16) (by kernel_rfl) rfl ?_
        refine AWL.y rfl rfl (B rfl) (Yv.assign rfl (E rfl rfl)) ?_
        refine AWL.nil ?_
        refine AWP.done (by kernel_rfl) ?_
        refine ⟨b15, trivial, (Sub.cons rfl rfl (Sub.cons rfl rfl (Sub.cons rfl rfl (Sub.cons rfl rfl (Sub.cons rfl rfl (Sub.cons rfl rfl (Sub.cons rfl rfl (Sub.cons rfl (by rw [← hli]) Sub.nil)))))))), ?_⟩
        rw [← hli]
        rfl
      ·
       refine AWL.y rfl rfl (B rfl) (Yv.loadRp rfl ag_3 (E rfl rfl) (fun hg => zi_get (by omega))) ?_
       refine AWL.nil ?_
       refine AWP.two (i := 3) (j := 14) (by kernel_rfl) rfl rfl ?_ ?_
       ·
        refine AWL.y rfl rfl (B rfl) (Yv.loadRpA rfl ag_32 (E rfl rfl) (fun hg => line_get (by omega))) ?_
        refine AWL.nil ?_
        refine AWP.two (i := 10) (j := 14) (by kernel_rfl) rfl rfl ?_ ?_
        ·
         refine AWL.callT rfl rfl (B rfl) rfl ce_26 (E rfl rfl) (evsC (E rfl rfl) (evsC (E rfl rfl) (evsC (E rfl rfl) (evsC (E rfl rfl) evs0)))) (line26 (l.getD j default) (((zL l (sizesF l)).getD j 0 : Nat) : Int) q.1 q.2) ?_
         rintro t78 S78 rfl
         refine AWL.nil ?_
         refine AWP.take (i := 11) rfl (by kernel_rfl) (by kernel_rfl) (by kernel_rfl) rfl rfl (B rfl) (freeMove rfl (E rfl rfl)) ?_
         refine AWP.take (i := 12) rfl (by kernel_rfl) (by kernel_rfl) (by kernel_rfl) rfl rfl (B rfl) (freeExtract rfl (E rfl rfl) rfl) ?_
         refine AWP.take (i := 13) rfl (by kernel_rfl) (by kernel_rfl) (by kernel_rfl) rfl rfl (B rfl) (freeExtract rfl (E rfl rfl) rfl) ?_
         refine AWP.one (i := 14) (by kernel_rfl) rfl ?_
         refine AWL.allocOp rfl rfl (B rfl) rfl zc_30 (fun b15 => ?_)
         refine AWL.nil ?_
         refine AWP.one (i := 15) (by kernel_rfl) rfl ?_
         refine AWL.storeBox (i := 1) rfl rfl rfl ag_30 rfl (E rfl rfl) (E rfl rfl) rfl rfl (Nat.le_of_ble_eq_true rfl) ?_
         refine AWL.nil ?_
         refine AWP.one (i := 16) (by kernel_rfl) rfl ?_
         refine AWL.y rfl rfl (B rfl) (Yv.assign rfl (E rfl rfl)) ?_
         refine AWL.nil ?_
         refine AWP.done (by kernel_rfl) ?_
         refine ⟨b15, trivial, (Sub.cons rfl rfl (Sub.cons rfl rfl (Sub.cons rfl rfl (Sub.cons rfl rfl (Sub.cons rfl rfl (Sub.cons rfl rfl (Sub.cons rfl rfl (Sub.cons rfl (by rw [← hli]) Sub.nil)))))))), ?_⟩
         rw [← hli]
         rfl
        ·
         refine AWL.allocOp rfl rfl (B rfl) rfl zc_30 (fun b15 => ?_)
         refine AWL.nil ?_
         refine AWP.one (i := 10) (by kernel_rfl) rfl ?_
         refine AWL.callT rfl rfl (B rfl) rfl ce_26 (E rfl rfl) (evsC (E rfl rfl) (evsC (E rfl rfl) (evsC (E rfl rfl) (evsC (E rfl rfl) evs0)))) (line26 (l.getD j default) (((zL l (sizesF l)).getD j 0 : Nat) : Int) q.1 q.2) ?_
         rintro t78 S78 rfl
         refine AWL.nil ?_
         refine AWP.one (i := 11) (by kernel_rfl) rfl ?_
         refine AWL.y rfl rfl (B rfl) (Yv.move rfl (E rfl rfl)) ?_
         refine AWL.nil ?_
         refine AWP.take (i := 12) rfl (by kernel_rfl) (by kernel_rfl) (by kernel_rfl) rfl rfl (B rfl) (freeExtract rfl (E rfl rfl) rfl) ?_
         refine AWP.take (i := 13) rfl (by kernel_rfl) (by kernel_rfl) (by kernel_rfl) rfl rfl (B rfl) (freeExtract rfl (E rfl rfl) rfl) ?_
         refine AWP.one (i := 15) (by kernel_rfl) rfl ?_
         refine AWL.storeBox (i := 1) rfl rfl rfl ag_30 rfl (E rfl rfl) (E rfl rfl) rfl rfl (Nat.le_of_ble_eq_true rfl) ?_
         refine AWL.nil ?_
         refine AWP.one (i := 16) (by kernel_rfl) rfl ?_
         refine AWL.y rfl rfl (B rfl) (Yv.assign rfl (E rfl rfl)) ?_
         refine AWL.nil ?_
         refine AWP.done (by kernel_rfl) ?_
         refine ⟨b15, trivial, (Sub.cons rfl rfl (Sub.cons rfl rfl (Sub.cons rfl rfl (Sub.cons rfl rfl (Sub.cons rfl rfl (Sub.cons rfl rfl (Sub.cons rfl rfl (Sub.cons rfl (by rw [← hli]) Sub.nil)))))))), ?_⟩
         rw [← hli]
         rfl
       ·
        refine AWL.allocOp rfl rfl (B rfl) rfl zc_30 (fun b15 => ?_)
        refine AWL.nil ?_
        refine AWP.one (i := 3) (by kernel_rfl) rfl ?_
        refine AWL.y rfl rfl (B rfl) (Yv.loadRpA rfl ag_32 (E rfl rfl) (fun hg => line_get (by omega))) ?_
        refine AWL.nil ?_
        refine AWP.one (i := 10) (by kernel_rfl) rfl ?_
        refine AWL.callT rfl rfl (B rfl) rfl ce_26 (E rfl rfl) (evsC (E rfl rfl) (evsC (E rfl rfl) (evsC (E rfl rfl) (evsC (E rfl rfl) evs0)))) (line26 (l.getD j default) (((zL l (sizesF l)).getD j 0 : Nat) : Int) q.1 q.2) ?_
        rintro t78 S78 rfl
        refine AWL.nil ?_
        refine AWP.one (i := 11) (by kernel_rfl) rfl ?_
        refine AWL.y rfl rfl (B rfl) (Yv.move rfl (E rfl rfl)) ?_
        refine AWL.nil ?_
        refine AWP.take (i := 12) rfl (by kernel_rfl) (by kernel_rfl) (by kernel_rfl) rfl rfl (B rfl) (freeExtract rfl (E rfl rfl) rfl) ?_
        refine AWP.take (i := 13) rfl (by kernel_rfl) (by kernel_rfl) (by kernel_rfl) rfl rfl (B rfl) (freeExtract rfl (E rfl rfl) rfl) ?_
        refine AWP.one (i := 15) (by kernel_rfl) rfl ?_
        refine AWL.storeBox (i := 1) rfl rfl rfl ag_30 rfl (E rfl rfl) (E rfl rfl) rfl rfl (Nat.le_of_ble_eq_true rfl) ?_
        refine AWL.nil ?_
        refine AWP.one (i := 16) (by kernel_rfl) rfl ?_
        refine AWL.y rfl rfl (B rfl) (Yv.assign rfl (E rfl rfl)) ?_
        refine AWL.nil ?_
        refine AWP.done (by kernel_rfl) ?_
        refine ⟨b15, trivial, (Sub.cons rfl rfl (Sub.cons rfl rfl (Sub.cons rfl rfl (Sub.cons rfl rfl (Sub.cons rfl rfl (Sub.cons rfl rfl (Sub.cons rfl rfl (Sub.cons rfl (by rw [← hli]) Sub.nil)))))))), ?_⟩
        rw [← hli]
        rfl
      ·
       refine AWL.allocOp rfl rfl (B rfl) rfl zc_30 (fun b15 => ?_)
       refine AWL.nil ?_
       refine AWP.two (i := 3) (j := 7) (by kernel_rfl) rfl rfl ?_ ?_
       ·
        refine AWL.y rfl rfl (B rfl) (Yv.loadRpA rfl ag_32 (E rfl rfl) (fun hg => line_get (by omega))) ?_
        refine AWL.nil ?_
        refine AWP.one (i := 7) (by kernel_rfl) rfl ?_
        refine AWL.y rfl rfl (B rfl) (Yv.loadRp rfl ag_3 (E rfl rfl) (fun hg => zi_get (by omega))) ?_
        refine AWL.nil ?_
        refine AWP.one (i := 10) (by kernel_rfl) rfl ?_
        refine AWL.callT rfl rfl (B rfl) rfl ce_26 (E rfl rfl) (evsC (E rfl rfl) (evsC (E rfl rfl) (evsC (E rfl rfl) (evsC (E rfl rfl) evs0)))) (line26 (l.getD j default) (((zL l (sizesF l)).getD j 0 : Nat) : Int) q.1 q.2) ?_
        rintro t78 S78 rfl
        refine AWL.nil ?_
        refine AWP.one (i := 11) (by kernel_rfl) rfl ?_
        refine AWL.y rfl rfl (B rfl) (Yv.move rfl (E rfl rfl)) ?_
        refine AWL.nil ?_
        refine AWP.take (i := 12) rfl (by kernel_rfl) (by kernel_rfl) (by kernel_rfl) rfl rfl (B rfl) (freeExtract rfl (E rfl rfl) rfl) ?_
        refine AWP.take (i := 13) rfl (by kernel_rfl) (by kernel_rfl) (by kernel_rfl) rfl rfl (B rfl) (freeExtract rfl (E rfl rfl) rfl) ?_
        refine AWP.one (i := 15) (by kernel_rfl) rfl ?_
        refine AWL.storeBox (i := 1) rfl rfl rfl ag_30 rfl (E rfl rfl) (E rfl rfl) rfl rfl (Nat.le_of_ble_eq_true rfl) ?_
        refine AWL.nil ?_
        refine AWP.one (i := 16) (by kernel_rfl) rfl ?_
        refine AWL.y rfl rfl (B rfl) (Yv.assign rfl (E rfl rfl)) ?_
        refine AWL.nil ?_
        refine AWP.done (by kernel_rfl) ?_
        refine ⟨b15, trivial, (Sub.cons rfl rfl (Sub.cons rfl rfl (Sub.cons rfl rfl (Sub.cons rfl rfl (Sub.cons rfl rfl (Sub.cons rfl rfl (Sub.cons rfl rfl (Sub.cons rfl (by rw [← hli]) Sub.nil)))))))), ?_⟩
        rw [← hli]
        rfl
       ·
        refine AWL.y rfl rfl (B rfl) (Yv.loadRp rfl ag_3 (E rfl rfl) (fun hg => zi_get (by omega))) ?_
        refine AWL.nil ?_
        refine AWP.one (i := 3) (by kernel_rfl) rfl ?_
        refine AWL.y rfl rfl (B rfl) (Yv.loadRpA rfl ag_32 (E rfl rfl) (fun hg => line_get (by omega))) ?_
        refine AWL.nil ?_
        refine AWP.one (i := 10) (by kernel_rfl) rfl ?_
        refine AWL.callT rfl rfl (B rfl) rfl ce_26 (E rfl rfl) (evsC (E rfl rfl) (evsC (E rfl rfl) (evsC (E rfl rfl) (evsC (E rfl rfl) evs0)))) (line26 (l.getD j default) (((zL l (sizesF l)).getD j 0 : Nat) : Int) q.1 q.2) ?_
        rintro t78 S78 rfl
        refine AWL.nil ?_
        refine AWP.one (i := 11) (by kernel_rfl) rfl ?_
        refine AWL.y rfl rfl (B rfl) (Yv.move rfl (E rfl rfl)) ?_
        refine AWL.nil ?_
        refine AWP.take (i := 12) rfl (by kernel_rfl) (by kernel_rfl) (by kernel_rfl) rfl rfl (B rfl) (freeExtract rfl (E rfl rfl) rfl) ?_
        refine AWP.take (i := 13) rfl (by kernel_rfl) (by kernel_rfl) (by kernel_rfl) rfl rfl (B rfl) (freeExtract rfl (E rfl rfl) rfl) ?_
        refine AWP.one (i := 15) (by kernel_rfl) rfl ?_
        refine AWL.storeBox (i := 1) rfl rfl rfl ag_30 rfl (E rfl rfl) (E rfl rfl) rfl rfl (Nat.le_of_ble_eq_true rfl) ?_
        refine AWL.nil ?_
        refine AWP.one (i := 16) (by kernel_rfl) rfl ?_
        refine AWL.y rfl rfl (B rfl) (Yv.assign rfl (E rfl rfl)) ?_
        refine AWL.nil ?_
        refine AWP.done (by kernel_rfl) ?_
        refine ⟨b15, trivial, (Sub.cons rfl rfl (Sub.cons rfl rfl (Sub.cons rfl rfl (Sub.cons rfl rfl (Sub.cons rfl rfl (Sub.cons rfl rfl (Sub.cons rfl rfl (Sub.cons rfl (by rw [← hli]) Sub.nil)))))))), ?_⟩
        rw [← hli]
        rfl
     ·
      rintro b15 hmid
      refine AW.rseq ?_
      refine AWL.y rfl rfl (B rfl) (Yv.move rfl (E rfl rfl)) ?_
      refine AWL.nil ?_
      refine AW.cond rfl (fun h4t => ?_) (fun h4f => ?_)
      ·
       try replace h4t := of_decide_eq_true h4t
       refine AW.region ?_
       refine AWL.y rfl rfl (B rfl) (Yv.move rfl (E rfl rfl)) ?_
       refine AWL.y rfl rfl (B rfl) (Yv.loadBoxA rfl ag_30 (i := 1) rfl (E rfl rfl) rfl rfl) ?_
       refine AWL.buildSliceE rfl rfl (B rfl) rfl el_24 (B rfl) rfl (evsC (E rfl rfl) evs0) (Nat.le_of_ble_eq_true rfl) rfl rfl ?_
       refine AWL.appendRow (i := 0) rfl rfl (B rfl) rfl el_24 (B rfl) rfl (E rfl rfl) (SrcT.sl so_24 (B rfl) (E rfl rfl) rfl) (by unfold maxLen; omega) (by omega) (fun A85 c85 => ?_)
       refine AWL.y rfl rfl (B rfl) (Yv.assign rfl (E rfl rfl)) ?_
       refine AWL.nil ?_
       refine AW.dropAt 1 ?_
       refine AW.region ?_
       refine AWL.y rfl rfl (B rfl) (Yv.move rfl (E rfl rfl)) ?_
       refine AWL.y rfl rfl (B rfl) (Yv.addN_i64 rfl (E rfl rfl) (E rfl rfl) (fun hg => by omega)) ?_
       refine AWL.y rfl rfl (B rfl) (Yv.assign rfl (E rfl rfl)) ?_
       refine AWL.nil ?_
       obtain ⟨i, hi⟩ := Option.isSome_iff_exists.1 h4t
       obtain ⟨hoL, hoC⟩ := outN_cells hi
       refine ⟨j + 1, A85, c85, by omega, by omega, Sub.cons rfl rfl (Sub.cons rfl rfl (Sub.cons rfl rfl (Sub.cons rfl rfl (Sub.cons rfl (by rw [hoL]) (Sub.cons rfl (by simp) Sub.nil))))), ?_⟩
       rw [hoL, hoC, hi]
       rfl
      try replace h4f := of_decide_eq_false h4f
      refine AW.skip ?_
      refine AW.dropAt 1 ?_
      refine AW.region ?_
      refine AWL.y rfl rfl (B rfl) (Yv.move rfl (E rfl rfl)) ?_
      refine AWL.y rfl rfl (B rfl) (Yv.addN_i64 rfl (E rfl rfl) (E rfl rfl) (fun hg => by omega)) ?_
      refine AWL.y rfl rfl (B rfl) (Yv.assign rfl (E rfl rfl)) ?_
      refine AWL.nil ?_
      have hoN := outN_none (Option.not_isSome_iff_eq_none.1 (ne_true_of_eq_false h4f))
      refine ⟨j + 1, Ao, co, by omega, by omega, Sub.cons rfl rfl (Sub.cons rfl rfl (Sub.cons rfl rfl (Sub.cons rfl rfl (Sub.cons rfl (by rw [hoN]) (Sub.cons rfl (by simp) Sub.nil))))), ?_⟩
      rw [hoN]
      rfl
   try replace h2f := of_decide_eq_false h2f
   refine AW.exit ?_
   obtain rfl : j = l.length := by omega
   refine AW.freeze 0 10 rfl (B rfl) rfl ?_
   refine AW.rseq ?_
   refine AWL.y rfl rfl (B rfl) (Yv.move rfl (E rfl rfl)) ?_
   refine AWL.y rfl rfl (B rfl) (Yv.assign rfl (E rfl rfl)) ?_
   refine AWL.y rfl rfl (B rfl) (Yv.assign rfl (E rfl rfl)) ?_
   refine AWL.nil ?_
   refine AW.ret (retI (.tmp rfl (.tmp rfl .nil)) ?_)
   rw [resL_ok hle, hle]
   rfl

set_option maxHeartbeats 2000000 in
theorem refPlaces14 (l : List Line) (hl : l.length ≤ NL) (at_ : Int) (f0 : 0 ≤ at_) :
    ACalls Try.prog 14 [linesT l, .v (.int .u64 at_)] [] (fun t_ S => t_ = .tup [.sl 1 ((plcL l at_).map zq), .v (.int .i64 (laidE l at_))]) := by
  have hnl : l.length ≤ 1099511627 := hl
  unfold NL at hl
  have hpb := plF_bound (sizesF_le l) (by rw [sizesF_len]; omega)
  have hsl := sizesF_len l
  have hpl : (plF (sizesF l)).length = l.length + 1 := by rw [plF_len, hsl]
  have hzl := zL_len l (sizesF l)
  have hpn := plF_get (sizesF l) (k := l.length) (by omega)
  have hpbn := hpb l.length
  refine ACalls.intro Try.func14 rfl Try.ntmps14 (Nat.le_of_ble_eq_true rfl) rfl fun X w0 => ?_
  refine AW.rseq ?_
  refine AWL.y rfl rfl (B rfl) (Yv.assign rfl (E rfl rfl)) ?_
  refine AWL.y rfl rfl (B rfl) (Yv.assign rfl (E rfl rfl)) ?_
  refine AWL.nil ?_
  refine AW.rseq ?_
  refine AWL.y rfl rfl (B rfl) (Yv.move rfl (E rfl rfl)) ?_
  refine AWL.callP rfl rfl (B rfl) rfl ce_13 (E rfl rfl) (evsC (E rfl rfl) evs0) (refCheck13 l (by unfold NL; omega)) (fun t S h => h) ?_
  refine AWL.y rfl rfl (B rfl) (Yv.assign rfl (E rfl rfl)) ?_
  refine AWL.nil ?_
  refine AW.seq ?_
  refine AW.rseq ?_
  refine AWL.y rfl rfl (B rfl) (Yv.move rfl (E rfl rfl)) ?_
  refine AWL.y rfl rfl (B rfl) (Yv.neq rfl (E rfl rfl) (E rfl rfl)) ?_
  refine AWL.nil ?_
  refine AW.cond rfl (fun h0t => ?_) (fun h0f => ?_)
  ·
   try replace h0t := of_decide_eq_true h0t
   have hle : ¬ laidE l at_ = 0 := by rw [laidE, if_pos (by simpa using h0t)]; simpa using h0t
   have hlx : laidE l at_ = checkF l := by rw [laidE, if_pos (by simpa using h0t)]
   refine AW.rseq ?_
   refine AWL.y rfl rfl (B rfl) (Yv.move rfl (E rfl rfl)) ?_
   refine AWL.y rfl rfl (B rfl) (Yv.assign rfl (E rfl rfl)) ?_
   refine AWL.y rfl rfl (B rfl) (Yv.assign rfl (E rfl rfl)) ?_
   refine AWL.nil ?_
   refine AW.retype (k := 4) (t' := .sl 1 []) rfl (nil_sl (by decide)) ?_
   refine AW.ret (retI (.tmp rfl (.tmp rfl .nil)) ?_)
   rw [plcL, if_neg hle, hlx]
   rfl
  try replace h0f := of_decide_eq_false h0f
  have hck : checkF l = 0 := by simpa using h0f
  refine AW.skip ?_
  refine AW.rseq ?_
  refine AWL.y rfl rfl (B rfl) (Yv.move rfl (E rfl rfl)) ?_
  refine AWL.callT rfl rfl (B rfl) rfl ce_24 (E rfl rfl) (evsC (E rfl rfl) evs0) (refLay24 l (by unfold NL; omega) hck) ?_
  rintro t19 S19 rfl
  refine AWL.y rfl rfl (B rfl) (Yv.move rfl (E rfl rfl)) ?_
  refine AWL.y rfl rfl (B rfl) (Yv.extract rfl (E rfl rfl) rfl) ?_
  refine AWL.y rfl rfl (B rfl) (Yv.extract rfl (E rfl rfl) rfl) ?_
  refine AWL.y rfl rfl (B rfl) (Yv.assign rfl (E rfl rfl)) ?_
  refine AWL.y rfl rfl (B rfl) (Yv.assign rfl (E rfl rfl)) ?_
  refine AWL.nil ?_
  refine AW.rseq ?_
  refine AWL.y rfl rfl (B rfl) (Yv.move rfl (E rfl rfl)) ?_
  refine AWL.y rfl rfl (B rfl) (Yv.move rfl (E rfl rfl)) ?_
  refine AWL.y rfl rfl (B rfl) (Yv.move rfl (E rfl rfl)) ?_
  refine AWL.y rfl rfl (B rfl) (Yv.lenSl rfl so_22 (B rfl) (E rfl rfl) len_lines) ?_
  refine AWL.y rfl rfl (B rfl) (Yv.indexSl (j := l.length) rfl ss_55 (B rfl) (E rfl rfl) (E rfl rfl) (fun hg => ⟨rfl, by simp only [List.length_map]; omega⟩)) ?_
  refine AWL.y rfl rfl (B rfl) (Yv.loadRp rfl ag_2 (E rfl rfl) (fun hg => zi_get (by omega))) ?_
  refine AWL.callP rfl rfl (B rfl) rfl ce_25 (E rfl rfl) (evsC (E rfl rfl) (evsC (E rfl rfl) evs0)) (far25 at_ ((plF (sizesF l)).getD l.length 0 : Nat) f0 (by omega) (by omega)) (fun t S h => h) ?_
  refine AWL.y rfl rfl (B rfl) (Yv.assign rfl (E rfl rfl)) ?_
  refine AWL.nil ?_
  refine AW.seq ?_
  refine AW.rseq ?_
  refine AWL.y rfl rfl (B rfl) (Yv.move rfl (E rfl rfl)) ?_
  refine AWL.nil ?_
  refine AW.cond rfl (fun h1t => ?_) (fun h1f => ?_)
  ·
   try replace h1t := of_decide_eq_true h1t
   have hfar : farE at_ (pre (sizesF l) l.length) = true := by rw [← hpn]; exact h1t
   have hlx : laidE l at_ = 221 := by rw [laidE, if_neg (fun q => q hck), if_pos hfar]
   have hle : ¬ laidE l at_ = 0 := by rw [hlx]; decide
   refine AW.rseq ?_
   refine AWL.y rfl rfl (B rfl) (Yv.assign rfl (E rfl rfl)) ?_
   refine AWL.y rfl rfl (B rfl) (Yv.assign rfl (E rfl rfl)) ?_
   refine AWL.nil ?_
   refine AW.retype (k := 4) (t' := .sl 1 []) rfl (nil_sl (by decide)) ?_
   refine AW.ret (retI (.tmp rfl (.tmp rfl .nil)) ?_)
   rw [plcL, if_neg hle, hlx]
   rfl
  try replace h1f := of_decide_eq_false h1f
  have hfar : ¬ farE at_ (pre (sizesF l) l.length) = true := by rw [← hpn]; exact fun q => Bool.noConfusion (q.symm.trans h1f)
  have hle : laidE l at_ = 0 := by rw [laidE, if_neg (fun q => q hck), if_neg hfar]
  obtain ⟨_, hat1, hat2⟩ := laidE_at hle
  refine AW.skip ?_
  refine AW.rseq ?_
  refine AWL.y rfl rfl (B rfl) (Yv.assign rfl (E rfl rfl)) ?_
  refine AWL.nil ?_
  refine AW.rowNil 23 1 ?_
  refine AW.seq ?_
  refine AW.rseq ?_
  refine AWL.y rfl rfl (B rfl) (Yv.assign rfl (E rfl rfl)) ?_
  refine AWL.nil ?_
  refine AW.block ?_
  refine AW.loop3 (fun (j : Nat) (Ao : Option Addr) (co : Nat) => [(1, true, .v (.int .u64 at_)), (8, true, .sl 1 ((plF (sizesF l)).map zi)), (10, true, .v (.slice Ao j co)), (11, true, .v (.int .i64 (j : Int)))]) (fun (j : Nat) (Ao : Option Addr) (co : Nat) => [.row Ao j co 23 1 ((mixP (plF (sizesF l)) at_ j).map zq)]) (fun (j : Nat) (Ao : Option Addr) (co : Nat) => j ≤ l.length + 1) (fun (j : Nat) (Ao : Option Addr) (co : Nat) => l.length + 1 - j) 0 none 0 ?_ ?_ ?_ ?_
  · exact Nat.zero_le _
  · exact (Sub.cons rfl rfl (Sub.cons rfl rfl (Sub.cons rfl rfl (Sub.cons rfl rfl Sub.nil))))
  · rfl
  ·
   intro j Ao co hinv
   refine AW.seq ?_
   refine AW.rseq ?_
   refine AWL.y rfl rfl (B rfl) (Yv.move rfl (E rfl rfl)) ?_
   refine AWL.y rfl rfl (B rfl) (Yv.move rfl (E rfl rfl)) ?_
   refine AWL.y rfl rfl (B rfl) (Yv.lenSl rfl so_55 (B rfl) (E rfl rfl) (show ((plF (sizesF l)).map zi).length = (l.length + 1) * 1 by rw [List.length_map, hpl, Nat.mul_one])) ?_
   refine AWL.y rfl rfl (B rfl) (Yv.lss rfl (E rfl rfl) (E rfl rfl)) ?_
   refine AWL.nil ?_
   refine AW.cond rfl (fun h2t => ?_) (fun h2f => ?_)
   ·
    try replace h2t := of_decide_eq_true h2t
    refine AW.skip ?_
    refine AW.seq ?_
    refine AW.block ?_
    have hpj := hpb j
    refine AW.region ?_
    refine AWL.y rfl rfl (B rfl) (Yv.move rfl (E rfl rfl)) ?_
    refine AWL.y rfl rfl (B rfl) (Yv.move rfl (E rfl rfl)) ?_
    refine AWL.y rfl rfl (B rfl) (Yv.move rfl (E rfl rfl)) ?_
    refine AWL.y rfl rfl (B rfl) (Yv.move rfl (E rfl rfl)) ?_
    refine AWL.y rfl rfl (B rfl) (Yv.indexSl (j := j) rfl ss_55 (B rfl) (E rfl rfl) (E rfl rfl) (fun hg => ⟨rfl, by simp only [List.length_map]; omega⟩)) ?_
    refine AWL.y rfl rfl (B rfl) (Yv.loadRp rfl ag_2 (E rfl rfl) (fun hg => zi_get (by omega))) ?_
    refine AWL.y rfl rfl (B rfl) (Yv.convN_u64 rfl Try.underlying2 kd_23 (E rfl rfl) (fun hg => by omega)) ?_
    refine AWL.y rfl rfl (B rfl) (Yv.addN_u64 rfl (E rfl rfl) (E rfl rfl) (fun hg => by omega)) ?_
    refine AWL.buildSlice1 rfl rfl (B rfl) rfl el_37 rfl (evsC (E rfl rfl) evs0) (Nat.le_of_ble_eq_true rfl) rfl rfl ?_
    refine AWL.appendRow (i := 0) rfl rfl (B rfl) rfl el_37 (B rfl) rfl (E rfl rfl) (SrcT.sl so_37 (B rfl) (E rfl rfl) rfl) (by unfold maxLen; omega) (by omega) (fun A45 c45 => ?_)
    refine AWL.y rfl rfl (B rfl) (Yv.assign rfl (E rfl rfl)) ?_
    refine AWL.nil ?_
    refine AW.region ?_
    refine AWL.y rfl rfl (B rfl) (Yv.move rfl (E rfl rfl)) ?_
    refine AWL.y rfl rfl (B rfl) (Yv.addN_i64 rfl (E rfl rfl) (E rfl rfl) (fun hg => by omega)) ?_
    refine AWL.y rfl rfl (B rfl) (Yv.assign rfl (E rfl rfl)) ?_
    refine AWL.nil ?_
    refine ⟨j + 1, A45, c45, by omega, by omega, Sub.cons rfl rfl (Sub.cons rfl rfl (Sub.cons rfl rfl (Sub.cons rfl (by simp) Sub.nil))), ?_⟩
    rw [mixP_next (by omega)]
    rfl
   try replace h2f := of_decide_eq_false h2f
   refine AW.exit ?_
   obtain rfl : j = l.length + 1 := by omega
   rw [← hpl, mixP_all]
   refine AW.freeze 0 10 rfl (B rfl) rfl ?_
   refine AW.rseq ?_
   refine AWL.y rfl rfl (B rfl) (Yv.move rfl (E rfl rfl)) ?_
   refine AWL.y rfl rfl (B rfl) (Yv.assign rfl (E rfl rfl)) ?_
   refine AWL.y rfl rfl (B rfl) (Yv.assign rfl (E rfl rfl)) ?_
   refine AWL.nil ?_
   refine AW.ret (retI (.tmp rfl (.tmp rfl .nil)) ?_)
   rw [plcL, if_pos hle, hle]
   rfl

set_option maxHeartbeats 400000 in
theorem refAssemble16 (l : List Line) (hl : l.length ≤ NL) (at_ : Int) (f0 : 0 ≤ at_) :
    ACalls Try.prog 16 [linesT l, .v (.int .u64 at_)] [] (fun t_ S => t_ = .tup [u8s (asmB l at_), .v (.int .i64 (asmE l at_))]) := by
  have hnl : l.length ≤ 1099511627 := hl
  unfold NL at hl
  refine ACalls.intro Try.func16 rfl Try.ntmps16 (Nat.le_of_ble_eq_true rfl) rfl fun X w0 => ?_
  refine AW.rseq ?_
  refine AWL.y rfl rfl (B rfl) (Yv.assign rfl (E rfl rfl)) ?_
  refine AWL.y rfl rfl (B rfl) (Yv.assign rfl (E rfl rfl)) ?_
  refine AWL.nil ?_
  refine AW.rseq ?_
  refine AWL.y rfl rfl (B rfl) (Yv.move rfl (E rfl rfl)) ?_
  refine AWL.y rfl rfl (B rfl) (Yv.move rfl (E rfl rfl)) ?_
  refine AWL.callT rfl rfl (B rfl) rfl ce_11 (E rfl rfl) (evsC (E rfl rfl) (evsC (E rfl rfl) evs0)) (refResolve11 l (by unfold NL; omega) at_ f0) ?_
  rintro t11 S11 rfl
  refine AWL.y rfl rfl (B rfl) (Yv.move rfl (E rfl rfl)) ?_
  refine AWL.y rfl rfl (B rfl) (Yv.extract rfl (E rfl rfl) rfl) ?_
  refine AWL.y rfl rfl (B rfl) (Yv.extract rfl (E rfl rfl) rfl) ?_
  refine AWL.y rfl rfl (B rfl) (Yv.assign rfl (E rfl rfl)) ?_
  refine AWL.y rfl rfl (B rfl) (Yv.assign rfl (E rfl rfl)) ?_
  refine AWL.nil ?_
  refine AW.seq ?_
  refine AW.rseq ?_
  refine AWL.y rfl rfl (B rfl) (Yv.move rfl (E rfl rfl)) ?_
  refine AWL.y rfl rfl (B rfl) (Yv.neq rfl (E rfl rfl) (E rfl rfl)) ?_
  refine AWL.nil ?_
  refine AW.cond rfl (fun h0t => ?_) (fun h0f => ?_)
  ·
   try replace h0t := of_decide_eq_true h0t
   have hle : ¬ laidE l at_ = 0 := by simpa using h0t
   refine AW.rseq ?_
   refine AWL.y rfl rfl (B rfl) (Yv.move rfl (E rfl rfl)) ?_
   refine AWL.y rfl rfl (B rfl) (Yv.assign rfl (E rfl rfl)) ?_
   refine AWL.y rfl rfl (B rfl) (Yv.assign rfl (E rfl rfl)) ?_
   refine AWL.nil ?_
   refine AW.retype (k := 4) (t' := u8s []) rfl (nil_sl (by decide)) ?_
   refine AW.ret (retI (.tmp rfl (.tmp rfl .nil)) ?_)
   rw [asmE, if_pos hle, asmB, resL_no hle]
   rfl
  try replace h0f := of_decide_eq_false h0f
  have hle : laidE l at_ = 0 := by simpa using h0f
  refine AW.skip ?_
  refine AW.rseq ?_
  refine AWL.y rfl rfl (B rfl) (Yv.move rfl (E rfl rfl)) ?_
  refine AWL.callT rfl rfl (B rfl) rfl ce_31 (E rfl rfl) (evsC (E rfl rfl) evs0) (refAll31 (resL l at_) (Nat.le_trans (resL_len l at_) (by unfold NL; omega))) ?_
  rintro t18 S18 rfl
  refine AWL.y rfl rfl (B rfl) (Yv.extract rfl (E rfl rfl) rfl) ?_
  refine AWL.y rfl rfl (B rfl) (Yv.extract rfl (E rfl rfl) rfl) ?_
  refine AWL.y rfl rfl (B rfl) (Yv.assign rfl (E rfl rfl)) ?_
  refine AWL.y rfl rfl (B rfl) (Yv.assign rfl (E rfl rfl)) ?_
  refine AWL.nil ?_
  refine AW.ret (retI (.tmp rfl (.tmp rfl .nil)) ?_)
  rw [asmE, if_neg (fun q => q hle), asmB]
  rfl

end Go.Proofs.Ytabkedlmpaoloaa
