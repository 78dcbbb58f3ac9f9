/-
  CONTRACTS of the asm package: laid, Resolve, Assemble; walked by program.
-/
import Derived.Test.YtabkedlmpaoloaaWk7
import Derived.Test.YtabkedlmpaoloaaRes
namespace Go.Proofs.Ytabkedlmpaoloaa
open Go Go.RowKit
set_option linter.unusedVariables false
set_option linter.unnecessarySimpa false
set_option linter.unusedSimpArgs false

set_option maxHeartbeats 1000000 in
theorem laid22 (l : List Line) (hl : l.length ≤ NL) (at_ : Int) (f0 : 0 ≤ at_) :
    ACalls Try.prog 22 [linesT l, .v (.int .u64 at_)] [] (fun t_ S => ∃ p s, t_ = .tup [p, s, .v (.int .i64 (laidE l at_))] ∧ (laidE l at_ = 0 → ∃ b A1 A2 P, p = .v (.pointer (some ⟨b, 0, none⟩)) ∧ s = .v (.slice P (l.length + 1) (l.length + 1)) ∧ S = LB b l A1 A2 (sizesF l) (tgF l) ++ [Ent.row P (l.length + 1) (l.length + 1) 23 1 ((plF (sizesF l)).map zu)])) := by
  have hnl : l.length ≤ 1099511627 := hl
  unfold NL at hl
  have hz1 := plF_bound (sizesF_le l) (by rw [sizesF_len]; omega) l.length
  have hz2 := plF_get (sizesF l) (k := l.length) (by rw [sizesF_len]; exact Nat.le_refl _)
  refine ACalls.intro Try.func22 rfl Try.ntmps22 (Nat.le_of_ble_eq_true rfl) rfl fun X w0 => ?_
  refine AW.rseq ?_
  refine AWL.y rfl rfl (B rfl) (Yv.assign rfl (E rfl rfl)) ?_
  refine AWL.y rfl rfl (B rfl) (Yv.assign rfl (E rfl rfl)) ?_
  refine AWL.y rfl rfl (B rfl) (Yv.assign rfl (E rfl rfl)) ?_
  refine AWL.nil ?_
  refine AW.seq ?_
  refine AW.rseq ?_
  refine AWL.y rfl rfl (B rfl) (Yv.move rfl (E rfl rfl)) ?_
  refine AWL.callP rfl rfl (B rfl) rfl ce_12 (E rfl rfl) (evsC (E rfl rfl) evs0) (check12 l (by unfold NL; omega)) (fun t S h => h) ?_
  refine AWL.y rfl rfl (B rfl) (Yv.assign rfl (E rfl rfl)) ?_
  refine AWL.nil ?_
  refine AW.rseq ?_
  refine AWL.y rfl rfl (B rfl) (Yv.move rfl (E rfl rfl)) ?_
  refine AWL.y rfl rfl (B rfl) (Yv.neq rfl (E rfl rfl) (E rfl rfl)) ?_
  refine AWL.nil ?_
  refine AW.cond rfl (fun h0t => ?_) (fun h0f => ?_)
  ·
   try replace h0t := of_decide_eq_true h0t
   have hck : ¬ checkF l = 0 := by simpa using h0t
   refine AW.rseq ?_
   refine AWL.y rfl rfl (B rfl) (Yv.move rfl (E rfl rfl)) ?_
   refine AWL.y rfl rfl (B rfl) (Yv.assign rfl (E rfl rfl)) ?_
   refine AWL.y rfl rfl (B rfl) (Yv.assign rfl (E rfl rfl)) ?_
   refine AWL.y rfl rfl (B rfl) (Yv.assign rfl (E rfl rfl)) ?_
   refine AWL.nil ?_
   refine AW.ret (retI (.tmp rfl (.tmp rfl (.tmp rfl .nil))) ?_)
   exact ⟨_, _, by rw [laidE, if_pos (by omega)]; rfl, fun h => absurd h (by rw [laidE, if_pos (by omega)]; omega)⟩
  try replace h0f := of_decide_eq_false h0f
  have hck : checkF l = 0 := by simpa using h0f
  refine AW.skip ?_
  refine AW.rseq ?_
  refine AWL.y rfl rfl (B rfl) (Yv.move rfl (E rfl rfl)) ?_
  refine AWL.call rfl rfl (B rfl) rfl ce_43 (E rfl rfl) (evsC (E rfl rfl) evs0) (S1 := []) (S2 := []) rfl (begun43 l (by unfold NL; omega) hck) ?_
  rintro t16 S16 ⟨b, A1, A2, rfl, rfl⟩
  refine AWL.y rfl rfl (B rfl) (Yv.assign rfl (E rfl rfl)) ?_
  refine AWL.nil ?_
  refine AW.rseq ?_
  refine AWL.y rfl rfl (B rfl) (Yv.move rfl (E rfl rfl)) ?_
  refine AWL.call rfl rfl (B rfl) rfl ce_44 (E rfl rfl) (evsC (E rfl rfl) evs0) (S1 := _) (S2 := []) rfl (grow44 l (by unfold NL; omega) b A1 A2 (l.map size0) (tgF l) (by simp) (sizes0_le l) (tgF_len l) (tgF_le l)) ?_
  rintro t18 S18 ⟨P, rfl, rfl⟩
  refine AWL.y rfl rfl (B rfl) (Yv.assign rfl (E rfl rfl)) ?_
  refine AWL.nil ?_
  refine AW.seq ?_
  refine AW.eqS (S' := LB b l A1 A2 (sizesF l) (tgF l) ++ [Ent.row P (l.length + 1) (l.length + 1) 23 1 ((plF (sizesF l)).map zu)]) (by rw [List.append_nil]; rfl) ?_
  refine AW.rseq ?_
  refine AWL.y rfl rfl (B rfl) (Yv.move rfl (E rfl rfl)) ?_
  refine AWL.y rfl rfl (B rfl) (Yv.gtr rfl (E rfl rfl) (E rfl rfl)) ?_
  refine AWL.y rfl rfl (B rfl) (Yv.move rfl (E rfl rfl)) ?_
  refine AWL.ygF rfl rfl rfl rfl (B rfl) (Yv.move rfl (E rfl rfl)) ?_
  refine AWL.ygF rfl rfl rfl rfl (B rfl) (Yv.move rfl (E rfl rfl)) ?_
  refine AWL.ygF rfl rfl rfl rfl (B rfl) (Yv.lenSl rfl so_22 (B rfl) (Eg rfl rfl id) len_lines) ?_
  refine AWL.ygF rfl rfl rfl rfl (B rfl) (Yv.indexRow (j := l.length) rfl ss_37 (i := 3) rfl (Eg rfl rfl id) (Eg rfl rfl id) (fun hg => ⟨rfl, by omega⟩)) ?_
  refine AWL.ygF rfl rfl rfl rfl (B rfl) (Yv.loadEp rfl ag_23 (i := 3) rfl (Eg rfl rfl id) (fun hg => zu_get (by rw [plF_len, sizesF_len]; omega))) ?_
  refine AWL.ygF rfl rfl rfl rfl (B rfl) (Yv.move rfl (E rfl rfl)) ?_
  refine AWL.ygF rfl rfl rfl rfl (B rfl) (Yv.subN_u64 rfl (E rfl rfl) (Eg rfl rfl id) (fun hg => by first | omega | (simp only [Bool.and_eq_true, Bool.or_eq_false_iff, Bool.not_eq_true', Bool.not_eq_false', decide_eq_true_eq, decide_eq_false_iff_not] at hg; omega))) ?_
  refine AWL.ygF rfl rfl rfl rfl (B rfl) (Yv.gtr rfl (Eg rfl rfl id) (Eg rfl rfl id)) ?_
  refine AWL.y rfl rfl (B rfl) (Yv.pickOr (t := .const (.bool true)) rfl (E rfl rfl) (Eg rfl rfl id)) ?_
  refine AWL.nil ?_
  refine AW.cond rfl (fun h1t => ?_) (fun h1f => ?_)
  ·
   have h1tr := h1t
   try replace h1t := of_decide_eq_true h1t
   refine AW.rseq ?_
   refine AWL.y rfl rfl (B rfl) (Yv.assign rfl (E rfl rfl)) ?_
   refine AWL.y rfl rfl (B rfl) (Yv.assign rfl (E rfl rfl)) ?_
   refine AWL.y rfl rfl (B rfl) (Yv.assign rfl (E rfl rfl)) ?_
   refine AWL.nil ?_
   refine AW.ret (retI (.tmp rfl (.tmp rfl (.tmp rfl .nil))) ?_)
   have hfar : farE at_ (pre (sizesF l) l.length) = true := by rw [← hz2]; exact h1tr
   exact ⟨_, _, by rw [laidE, if_neg (by omega), if_pos hfar]; rfl, fun h => absurd h (by rw [laidE, if_neg (by omega), if_pos hfar]; decide)⟩
  have h1fr := h1f
  try replace h1f := of_decide_eq_false h1f
  refine AW.skip ?_
  refine AW.rseq ?_
  refine AWL.y rfl rfl (B rfl) (Yv.move rfl (E rfl rfl)) ?_
  refine AWL.y rfl rfl (B rfl) (Yv.move rfl (E rfl rfl)) ?_
  refine AWL.y rfl rfl (B rfl) (Yv.assign rfl (E rfl rfl)) ?_
  refine AWL.y rfl rfl (B rfl) (Yv.assign rfl (E rfl rfl)) ?_
  refine AWL.y rfl rfl (B rfl) (Yv.assign rfl (E rfl rfl)) ?_
  refine AWL.nil ?_
  refine AW.ret (retI (.tmp rfl (.tmp rfl (.tmp rfl .nil))) ?_)
  have hfar : ¬ farE at_ (pre (sizesF l) l.length) = true := by rw [← hz2]; exact fun q => Bool.noConfusion (q.symm.trans h1fr)
  exact ⟨_, _, by rw [laidE, if_neg (by omega), if_neg hfar]; rfl, fun _ => ⟨b, A1, A2, P, rfl, rfl, rfl⟩⟩

set_option maxHeartbeats 2000000 in
theorem Resolve7 (l : List Line) (hl : l.length ≤ NL) (at_ : Int) (f0 : 0 ≤ at_) :
    ACalls Try.prog 7 [linesT l, .v (.int .u64 at_)] [] (fun t_ S => t_ = .tup [inssT (resL l at_), .v (.int .i64 (laidE l at_))]) := by
  have hnl : l.length ≤ 1099511627 := hl
  unfold NL at hl
  have hpb := plF_bound (sizesF_le l) (by rw [sizesF_len]; omega)
  have hsl := sizesF_len l
  refine ACalls.intro Try.func7 rfl Try.ntmps7 (Nat.le_of_ble_eq_true rfl) rfl fun X w0 => ?_
  refine AW.rseq ?_
  refine AWL.y rfl rfl (B rfl) (Yv.assign rfl (E rfl rfl)) ?_
  refine AWL.y rfl rfl (B rfl) (Yv.assign rfl (E rfl rfl)) ?_
  refine AWL.nil ?_
  refine AW.rseq ?_
  refine AWL.y rfl rfl (B rfl) (Yv.move rfl (E rfl rfl)) ?_
  refine AWL.y rfl rfl (B rfl) (Yv.move rfl (E rfl rfl)) ?_
  refine AWL.callAll rfl rfl (B rfl) rfl ce_22 (E rfl rfl) (evsC (E rfl rfl) (evsC (E rfl rfl) evs0)) (laid22 l (by unfold NL; omega) at_ f0) ?_
  rintro t16 S16 ⟨pv, sv, rfl, hlaid⟩
  refine AWL.y rfl rfl (B rfl) (Yv.move rfl (E rfl rfl)) ?_
  refine AWL.y rfl rfl (B rfl) (Yv.extract rfl (E rfl rfl) rfl) ?_
  refine AWL.y rfl rfl (B rfl) (Yv.extract rfl (E rfl rfl) rfl) ?_
  refine AWL.y rfl rfl (B rfl) (Yv.extract rfl (E rfl rfl) rfl) ?_
  refine AWL.y rfl rfl (B rfl) (Yv.assign rfl (E rfl rfl)) ?_
  refine AWL.y rfl rfl (B rfl) (Yv.assign rfl (E rfl rfl)) ?_
  refine AWL.y rfl rfl (B rfl) (Yv.assign rfl (E rfl rfl)) ?_
  refine AWL.nil ?_
  refine AW.seq ?_
  refine AW.rseq ?_
  refine AWL.y rfl rfl (B rfl) (Yv.move rfl (E rfl rfl)) ?_
  refine AWL.y rfl rfl (B rfl) (Yv.neq rfl (E rfl rfl) (E rfl rfl)) ?_
  refine AWL.nil ?_
  refine AW.cond rfl (fun h0t => ?_) (fun h0f => ?_)
  ·
   try replace h0t := of_decide_eq_true h0t
   refine AW.rseq ?_
   refine AWL.y rfl rfl (B rfl) (Yv.move rfl (E rfl rfl)) ?_
   refine AWL.y rfl rfl (B rfl) (Yv.assign rfl (E rfl rfl)) ?_
   refine AWL.y rfl rfl (B rfl) (Yv.assign rfl (E rfl rfl)) ?_
   refine AWL.nil ?_
   refine AW.retype (k := 4) (t' := inssT []) rfl (nil_sl (by decide)) ?_
   refine AW.ret (retI (.tmp rfl (.tmp rfl .nil)) ?_)
   rw [resL_no (by simpa using h0t)]
   rfl
  try replace h0f := of_decide_eq_false h0f
  have hle : laidE l at_ = 0 := by simpa using h0f
  obtain ⟨b, A1, A2, P, rfl, rfl, rfl⟩ := hlaid hle
  have hat := laidE_at hle
  refine AW.skip ?_
  refine AW.rseq ?_
  refine AWL.y rfl rfl (B rfl) (Yv.assign rfl (E rfl rfl)) ?_
  refine AWL.nil ?_
  refine AW.seq ?_
  refine AW.rseq ?_
  refine AWL.y rfl rfl (B rfl) (Yv.move rfl (E rfl rfl)) ?_
  refine AWL.y rfl rfl (B rfl) (Yv.lenSl rfl so_22 (B rfl) (E rfl rfl) len_lines) ?_
  refine AWL.y rfl rfl (B rfl) (Yv.move rfl (E rfl rfl)) ?_
  refine AWL.nil ?_
  refine AW.rowNil 30 6 ?_
  refine AW.block ?_
  refine AW.loop3 (fun (j : Nat) (Ao : Option Addr) (co : Nat) => [(0, true, linesT l), (1, true, .v (.int .u64 at_)), (6, true, .v (.pointer (some ⟨b, 0, none⟩))), (7, true, .v (.slice P (l.length + 1) (l.length + 1))), (9, true, .v (.slice Ao (outN l (tgF l) (sizesF l) at_ j).length co)), (23, true, linesT l), (24, true, .v (.int .i64 (l.length : Int))), (25, true, .v (.int .i64 (j : Int)))]) (fun (j : Nat) (Ao : Option Addr) (co : Nat) => (LB b l A1 A2 (sizesF l) (tgF l) ++ [Ent.row P (l.length + 1) (l.length + 1) 23 1 ((plF (sizesF l)).map zu), .row Ao (outN l (tgF l) (sizesF l) at_ j).length co 30 6 ((outN l (tgF l) (sizesF l) at_ j).flatMap insCells)])) (fun (j : Nat) (Ao : Option Addr) (co : Nat) => j ≤ l.length) (fun (j : Nat) (Ao : Option Addr) (co : Nat) => l.length - j) 0 none 0 ?_ ?_ ?_ ?_
  · exact Nat.zero_le _
  · exact (Sub.cons rfl rfl (Sub.cons rfl rfl (Sub.cons rfl rfl (Sub.cons rfl rfl (Sub.cons rfl rfl (Sub.cons rfl rfl (Sub.cons rfl rfl (Sub.cons rfl rfl Sub.nil))))))))
  · rfl
  ·
   intro j Ao co hinv
   have hol := outN_len l (tgF l) (sizesF l) at_ j
   have htj := tgF_le l j
   have hpt := hpb ((tgF l).getD j 0)
   have htl := tgF_len l
   refine AW.rseq ?_
   refine AWL.y rfl rfl (B rfl) (Yv.lss rfl (E rfl rfl) (E rfl rfl)) ?_
   refine AWL.nil ?_
   refine AW.seq ?_
   refine AW.cond rfl (fun h1t => ?_) (fun h1f => ?_)
   ·
    try replace h1t := of_decide_eq_true h1t
    refine AW.skip ?_
    refine AW.seq ?_
    refine AW.block ?_
    refine AW.rseq ?_
    refine AWL.y rfl rfl (B rfl) (Yv.move rfl (E rfl rfl)) ?_
    refine AWL.y rfl rfl (B rfl) (Yv.indexSl rfl ss_22 (B rfl) (E rfl rfl) (E rfl rfl) (fun hg => ⟨rfl, (by first | omega | (simp only [len_lines, len_inss, len_zu, len_ints, len_u8s]; omega))⟩)) ?_
    refine AWL.y rfl rfl (B rfl) (Yv.loadRpA rfl ag_32 (E rfl rfl) (fun hg => line_get (by omega))) ?_
    refine AWL.allocOp rfl rfl (B rfl) rfl zc_32 (fun b11 => ?_)
    refine AWL.y rfl rfl (B rfl) (Yv.assign rfl (E rfl rfl)) ?_
    refine AWL.storeBox (i := 5) rfl rfl rfl ag_32 rfl (E rfl rfl) (E rfl rfl) rfl rfl (Nat.le_of_ble_eq_true rfl) ?_
    refine AWL.nil ?_
    refine AW.rseq ?_
    refine AWL.y rfl rfl (B rfl) (Yv.assign rfl (E rfl rfl)) ?_
    refine AWL.nil ?_
    refine AW.mid (α := Unit) (fun _ => [(0, true, linesT l), (1, true, .v (.int .u64 at_)), (6, true, .v (.pointer (some ⟨b, 0, none⟩))), (7, true, .v (.slice P (l.length + 1) (l.length + 1))), (9, true, .v (.slice Ao (outN l (tgF l) (sizesF l) at_ j).length co)), (23, true, linesT l), (24, true, .v (.int .i64 (l.length : Int))), (25, true, .v (.int .i64 (j : Int))), (10, true, .v (.int .i64 (j : Int))), (11, true, .v (.pointer (some ⟨b11, 0, none⟩))), (12, true, .v (.int .i64 (if (sizesF l).getD j 0 = 2 then 1 else 4)))]) (fun _ => LB b l A1 A2 (sizesF l) (tgF l) ++ [Ent.row P (l.length + 1) (l.length + 1) 23 1 ((plF (sizesF l)).map zu), .row Ao (outN l (tgF l) (sizesF l) at_ j).length co 30 6 ((outN l (tgF l) (sizesF l) at_ j).flatMap insCells)] ++ [.box b11 32 (lineCells (l.getD j default))]) (fun _ => True) ?_ ?_
    ·
     refine AW.rseq ?_
     refine AWL.y rfl rfl (B rfl) (Yv.move rfl (E rfl rfl)) ?_
     refine AWL.y rfl rfl (B rfl) (Yv.nilChk rfl (E rfl rfl)) ?_
     refine AWL.y rfl rfl (B rfl) (Yv.fieldBox rfl fo_53_1 (E rfl rfl)) ?_
     refine AWL.y rfl rfl (B rfl) (Yv.loadBox rfl ag_37 (i := 0) rfl (E rfl rfl) rfl) ?_
     refine AWL.y rfl rfl (B rfl) (Yv.move rfl (E rfl rfl)) ?_
     refine AWL.y rfl rfl (B rfl) (Yv.indexRow rfl ss_37 (i := 1) rfl (E rfl rfl) (E rfl rfl) (fun hg => ⟨rfl, by omega⟩)) ?_
     refine AWL.y rfl rfl (B rfl) (Yv.loadEp rfl ag_23 (i := 1) rfl (E rfl rfl) (fun hg => zu_get (by first | omega | (rw [plN_len (by omega)]; omega)))) ?_
     refine AWL.y rfl rfl (B rfl) (Yv.eql rfl (E rfl rfl) (E rfl rfl)) ?_
     refine AWL.nil ?_
     refine AW.cond rfl (fun h2t => ?_) (fun h2f => ?_)
     ·
      try replace h2t := of_decide_eq_true h2t
      refine AW.region ?_
      refine AWL.y rfl rfl (B rfl) (Yv.assign rfl (E rfl rfl)) ?_
      refine AWL.nil ?_
      exact ⟨(), trivial, (Sub.cons rfl rfl (Sub.cons rfl rfl (Sub.cons rfl rfl (Sub.cons rfl rfl (Sub.cons rfl rfl (Sub.cons rfl rfl (Sub.cons rfl rfl (Sub.cons rfl rfl (Sub.cons rfl rfl (Sub.cons rfl rfl (Sub.cons rfl (by rw [if_pos (by omega)]; rfl) Sub.nil))))))))))), rfl⟩
     try replace h2f := of_decide_eq_false h2f
     refine AW.skip ?_
     exact ⟨(), trivial, (Sub.cons rfl rfl (Sub.cons rfl rfl (Sub.cons rfl rfl (Sub.cons rfl rfl (Sub.cons rfl rfl (Sub.cons rfl rfl (Sub.cons rfl rfl (Sub.cons rfl rfl (Sub.cons rfl rfl (Sub.cons rfl rfl (Sub.cons rfl (by rw [if_neg (by omega)]; rfl) Sub.nil))))))))))), rfl⟩
    ·
     rintro _ hmid
     refine AW.rseq ?_
     refine AWL.y rfl rfl (B rfl) (Yv.fieldBox rfl fo_32_0 (E rfl rfl)) ?_
     refine AWL.y rfl rfl (B rfl) (Yv.loadBox rfl ag_3 (i := 5) rfl (E rfl rfl) rfl) ?_
     refine AWL.nil ?_
     refine AW.block ?_
     refine AW.rseq ?_
     refine AWL.y rfl rfl (B rfl) (Yv.eql rfl (E rfl rfl) (E rfl rfl)) ?_
     refine AWL.y rfl rfl (B rfl) (Yv.assign rfl (E rfl rfl)) ?_
     refine AWL.nil ?_
     refine AW.cond rfl (fun h3t => ?_) (fun h3f => ?_)
     ·
      try replace h3t := of_decide_eq_true h3t
      refine AW.region ?_
      refine AWL.y rfl rfl (B rfl) (Yv.move rfl (E rfl rfl)) ?_
      refine AWL.y rfl rfl (B rfl) (Yv.fieldBox rfl fo_32_1 (E rfl rfl)) ?_
      refine AWL.y rfl rfl (B rfl) (Yv.loadBoxA rfl ag_30 (i := 5) rfl (E rfl rfl) rfl rfl) ?_
      refine AWL.buildSliceE rfl rfl (B rfl) rfl el_24 (B rfl) rfl (evsC (E rfl rfl) evs0) (Nat.le_of_ble_eq_true rfl) rfl rfl ?_
      refine AWL.appendRow (i := 4) rfl rfl (B rfl) rfl el_24 (B rfl) rfl (E rfl rfl) (SrcT.sl so_24 (B rfl) (E rfl rfl) rfl) (by unfold maxLen; omega) (by omega) (fun A46 c46 => ?_)
      refine AWL.y rfl rfl (B rfl) (Yv.assign rfl (E rfl rfl)) ?_
      refine AWL.nil ?_
      refine AW.dropAt 5 ?_
      refine AW.region ?_
      refine AWL.y rfl rfl (B rfl) (Yv.addN_i64 rfl (E rfl rfl) (E rfl rfl) (fun hg => by omega)) ?_
      refine AWL.y rfl rfl (B rfl) (Yv.move rfl (E rfl rfl)) ?_
      refine AWL.nil ?_
      obtain ⟨hoL, hoC⟩ := outN_cells (l := l) (tg := (tgF l)) (sz := (sizesF l)) (at_ := at_) (j := j) (by rw [insAt, insF, if_pos (by omega)])
      refine ⟨j + 1, A46, c46, by omega, by omega, Sub.cons rfl rfl (Sub.cons rfl rfl (Sub.cons rfl rfl (Sub.cons rfl rfl (Sub.cons rfl (by rw [hoL]) (Sub.cons rfl rfl (Sub.cons rfl rfl (Sub.cons rfl (by simp) Sub.nil))))))), ?_⟩
      rw [hoL, hoC]
      rfl
     try replace h3f := of_decide_eq_false h3f
     refine AW.rseq ?_
     refine AWL.y rfl rfl (B rfl) (Yv.eql rfl (E rfl rfl) (E rfl rfl)) ?_
     refine AWL.y rfl rfl (B rfl) (Yv.assign rfl (E rfl rfl)) ?_
     refine AWL.nil ?_
     refine AW.cond rfl (fun h4t => ?_) (fun h4f => ?_)
     ·
      try replace h4t := of_decide_eq_true h4t
      refine AW.region ?_
      refine AWL.y rfl rfl (B rfl) (Yv.move rfl (E rfl rfl)) ?_
      refine AWL.y rfl rfl (B rfl) (Yv.move rfl (E rfl rfl)) ?_
      refine AWL.y rfl rfl (B rfl) (Yv.move rfl (E rfl rfl)) ?_
      refine AWL.y rfl rfl (B rfl) (Yv.move rfl (E rfl rfl)) ?_
      refine AWL.call rfl rfl (B rfl) rfl ce_23 (E rfl rfl) (evsC (E rfl rfl) (evsC (E rfl rfl) (evsC (E rfl rfl) evs0))) (S1 := (LB b l A1 A2 (sizesF l) (tgF l) ++ [Ent.row P (l.length + 1) (l.length + 1) 23 1 ((plF (sizesF l)).map zu)])) (S2 := [Ent.row Ao (outN l (tgF l) (sizesF l) at_ j).length co 30 6 ((outN l (tgF l) (sizesF l) at_ j).flatMap insCells), .box b11 32 (lineCells (l.getD j default))]) rfl (way23 l (by unfold NL; omega) b A1 A2 P (sizesF l) (tgF l) (plF (sizesF l)) (by rw [plF_len, sizesF_len]) hpb (tgF_len l) (tgF_le l) j (by omega)) ?_
      rintro t53 S53 ⟨rfl, rfl⟩
      refine AWL.y rfl rfl (B rfl) (Yv.move rfl (E rfl rfl)) ?_
      refine AWL.y rfl rfl (B rfl) (Yv.buildS rfl sh_30 (evpC (E rfl rfl) (evpC (E rfl rfl) (evpC (E rfl rfl) evp0))) (fun _ => rfl)) ?_
      refine AWL.buildSliceE rfl rfl (B rfl) rfl el_24 (B rfl) rfl (evsC (E rfl rfl) evs0) (Nat.le_of_ble_eq_true rfl) rfl rfl ?_
      refine AWL.appendRow (i := 4) rfl rfl (B rfl) rfl el_24 (B rfl) rfl (E rfl rfl) (SrcT.sl so_24 (B rfl) (E rfl rfl) rfl) (by unfold maxLen; omega) (by omega) (fun A57 c57 => ?_)
      refine AWL.y rfl rfl (B rfl) (Yv.assign rfl (E rfl rfl)) ?_
      refine AWL.nil ?_
      refine AW.dropAt 5 ?_
      refine AW.region ?_
      refine AWL.y rfl rfl (B rfl) (Yv.addN_i64 rfl (E rfl rfl) (E rfl rfl) (fun hg => by omega)) ?_
      refine AWL.y rfl rfl (B rfl) (Yv.move rfl (E rfl rfl)) ?_
      refine AWL.nil ?_
      obtain ⟨hoL, hoC⟩ := outN_cells (l := l) (tg := (tgF l)) (sz := (sizesF l)) (at_ := at_) (j := j) (by rw [insAt, insF, if_neg (by omega), if_pos (by omega)])
      refine ⟨j + 1, A57, c57, by omega, by omega, Sub.cons rfl rfl (Sub.cons rfl rfl (Sub.cons rfl rfl (Sub.cons rfl rfl (Sub.cons rfl (by rw [hoL]) (Sub.cons rfl rfl (Sub.cons rfl rfl (Sub.cons rfl (by simp) Sub.nil))))))), ?_⟩
      rw [hoL, hoC]
      rfl
     try replace h4f := of_decide_eq_false h4f
     refine AW.rseq ?_
     refine AWL.y rfl rfl (B rfl) (Yv.eql rfl (E rfl rfl) (E rfl rfl)) ?_
     refine AWL.y rfl rfl (B rfl) (Yv.assign rfl (E rfl rfl)) ?_
     refine AWL.nil ?_
     refine AW.cond rfl (fun h5t => ?_) (fun h5f => ?_)
     ·
      try replace h5t := of_decide_eq_true h5t
      refine AW.regionH (HeldBox b11 (lineVals (l.getD j default))) rfl (tells_box (k := 5) rfl) ?_
      refine AWH.tk (i := 0) rfl rfl rfl (B rfl) (heldAll (freeMove rfl (E rfl rfl))) ?_
      refine AWH.tk (i := 1) rfl rfl rfl (B rfl) (heldAll (freeMove rfl (E rfl rfl))) ?_
      refine AWH.tk (i := 2) rfl rfl rfl (B rfl) (heldAll (freeMove rfl (E rfl rfl))) ?_
      refine AWH.tk (i := 3) rfl rfl rfl (B rfl) (heldAll (freeMove rfl (E rfl rfl))) ?_
      refine AWH.tk (i := 5) rfl rfl rfl (B rfl) (heldAll (freeField rfl fo_32_3 (E rfl rfl))) ?_
      refine AWH.tk (i := 6) rfl rfl rfl (B rfl) (heldLoad rfl ag_3 (E rfl rfl) rfl) ?_
      refine AWH.tk (i := 7) rfl rfl rfl (B rfl) (heldAll (freeMove rfl (E rfl rfl))) ?_
      refine AWH.one (i := 4) (by kernel_rfl) rfl ?_
      refine AWL.call rfl rfl (B rfl) rfl ce_23 (E rfl rfl) (evsC (E rfl rfl) (evsC (E rfl rfl) (evsC (E rfl rfl) evs0))) (S1 := (LB b l A1 A2 (sizesF l) (tgF l) ++ [Ent.row P (l.length + 1) (l.length + 1) 23 1 ((plF (sizesF l)).map zu)])) (S2 := [Ent.row Ao (outN l (tgF l) (sizesF l) at_ j).length co 30 6 ((outN l (tgF l) (sizesF l) at_ j).flatMap insCells), .box b11 32 (lineCells (l.getD j default))]) rfl (way23 l (by unfold NL; omega) b A1 A2 P (sizesF l) (tgF l) (plF (sizesF l)) (by rw [plF_len, sizesF_len]) hpb (tgF_len l) (tgF_le l) j (by omega)) ?_
      rintro t64 S64 ⟨rfl, rfl⟩
      refine tb 5 rfl ?_
      refine AWH.one (i := 8) (by kernel_rfl) rfl ?_
      refine AWL.y rfl rfl (B rfl) (Yv.buildS rfl sh_30 (evpC (E rfl rfl) (evpC (E rfl rfl) (evpC (E rfl rfl) (evpC (E rfl rfl) evp0)))) (fun _ => rfl)) ?_
      refine tb 5 rfl ?_
      refine AWH.one (i := 9) (by kernel_rfl) rfl ?_
      refine AWL.buildSliceE rfl rfl (B rfl) rfl el_24 (B rfl) rfl (evsC (E rfl rfl) evs0) (Nat.le_of_ble_eq_true rfl) rfl rfl ?_
      refine tb 5 rfl ?_
      refine AWH.one (i := 10) (by kernel_rfl) rfl ?_
      refine AWL.appendRow (i := 4) rfl rfl (B rfl) rfl el_24 (B rfl) rfl (E rfl rfl) (SrcT.sl so_24 (B rfl) (E rfl rfl) rfl) (by unfold maxLen; omega) (by omega) (fun A70 c70 => ?_)
      refine tb 5 rfl ?_
      refine AWH.one (i := 11) (by kernel_rfl) rfl ?_
      refine AWL.y rfl rfl (B rfl) (Yv.assign rfl (E rfl rfl)) ?_
      refine tb 5 rfl ?_
      refine AWH.done (by kernel_rfl) ?_
      refine AW.dropAt 5 ?_
      refine AW.region ?_
      refine AWL.y rfl rfl (B rfl) (Yv.addN_i64 rfl (E rfl rfl) (E rfl rfl) (fun hg => by omega)) ?_
      refine AWL.y rfl rfl (B rfl) (Yv.move rfl (E rfl rfl)) ?_
      refine AWL.nil ?_
      obtain ⟨hoL, hoC⟩ := outN_cells (l := l) (tg := (tgF l)) (sz := (sizesF l)) (at_ := at_) (j := j) (by rw [insAt, insF, if_neg (by omega), if_neg (by omega), if_pos (by omega)])
      refine ⟨j + 1, A70, c70, by omega, by omega, Sub.cons rfl rfl (Sub.cons rfl rfl (Sub.cons rfl rfl (Sub.cons rfl rfl (Sub.cons rfl (by rw [hoL]) (Sub.cons rfl rfl (Sub.cons rfl rfl (Sub.cons rfl (by simp) Sub.nil))))))), ?_⟩
      rw [hoL, hoC]
      rfl
     try replace h5f := of_decide_eq_false h5f
     refine AW.rseq ?_
     refine AWL.y rfl rfl (B rfl) (Yv.eql rfl (E rfl rfl) (E rfl rfl)) ?_
     refine AWL.y rfl rfl (B rfl) (Yv.assign rfl (E rfl rfl)) ?_
     refine AWL.nil ?_
     refine AW.cond rfl (fun h6t => ?_) (fun h6f => ?_)
     ·
      try replace h6t := of_decide_eq_true h6t
      refine AW.region ?_
      refine AWL.y rfl rfl (B rfl) (Yv.move rfl (E rfl rfl)) ?_
      refine AWL.y rfl rfl (B rfl) (Yv.move rfl (E rfl rfl)) ?_
      refine AWL.y rfl rfl (B rfl) (Yv.move rfl (E rfl rfl)) ?_
      refine AWL.y rfl rfl (B rfl) (Yv.move rfl (E rfl rfl)) ?_
      refine AWL.call rfl rfl (B rfl) rfl ce_23 (E rfl rfl) (evsC (E rfl rfl) (evsC (E rfl rfl) (evsC (E rfl rfl) evs0))) (S1 := (LB b l A1 A2 (sizesF l) (tgF l) ++ [Ent.row P (l.length + 1) (l.length + 1) 23 1 ((plF (sizesF l)).map zu)])) (S2 := [Ent.row Ao (outN l (tgF l) (sizesF l) at_ j).length co 30 6 ((outN l (tgF l) (sizesF l) at_ j).flatMap insCells), .box b11 32 (lineCells (l.getD j default))]) rfl (way23 l (by unfold NL; omega) b A1 A2 P (sizesF l) (tgF l) (plF (sizesF l)) (by rw [plF_len, sizesF_len]) hpb (tgF_len l) (tgF_le l) j (by omega)) ?_
      rintro t77 S77 ⟨rfl, rfl⟩
      refine AWL.y rfl rfl (B rfl) (Yv.buildS rfl sh_30 (evpC (E rfl rfl) (evpC (E rfl rfl) evp0)) (fun _ => rfl)) ?_
      refine AWL.buildSliceE rfl rfl (B rfl) rfl el_24 (B rfl) rfl (evsC (E rfl rfl) evs0) (Nat.le_of_ble_eq_true rfl) rfl rfl ?_
      refine AWL.appendRow (i := 4) rfl rfl (B rfl) rfl el_24 (B rfl) rfl (E rfl rfl) (SrcT.sl so_24 (B rfl) (E rfl rfl) rfl) (by unfold maxLen; omega) (by omega) (fun A80 c80 => ?_)
      refine AWL.y rfl rfl (B rfl) (Yv.assign rfl (E rfl rfl)) ?_
      refine AWL.nil ?_
      refine AW.dropAt 5 ?_
      refine AW.region ?_
      refine AWL.y rfl rfl (B rfl) (Yv.addN_i64 rfl (E rfl rfl) (E rfl rfl) (fun hg => by omega)) ?_
      refine AWL.y rfl rfl (B rfl) (Yv.move rfl (E rfl rfl)) ?_
      refine AWL.nil ?_
      obtain ⟨hoL, hoC⟩ := outN_cells (l := l) (tg := (tgF l)) (sz := (sizesF l)) (at_ := at_) (j := j) (by rw [insAt, insF, if_neg (by omega), if_neg (by omega), if_neg (by omega), if_pos (by omega)])
      refine ⟨j + 1, A80, c80, by omega, by omega, Sub.cons rfl rfl (Sub.cons rfl rfl (Sub.cons rfl rfl (Sub.cons rfl rfl (Sub.cons rfl (by rw [hoL]) (Sub.cons rfl rfl (Sub.cons rfl rfl (Sub.cons rfl (by simp) Sub.nil))))))), ?_⟩
      rw [hoL, hoC]
      rfl
     try replace h6f := of_decide_eq_false h6f
     refine AW.rseq ?_
     refine AWL.y rfl rfl (B rfl) (Yv.eql rfl (E rfl rfl) (E rfl rfl)) ?_
     refine AWL.y rfl rfl (B rfl) (Yv.assign rfl (E rfl rfl)) ?_
     refine AWL.nil ?_
     refine AW.cond rfl (fun h7t => ?_) (fun h7f => ?_)
     ·
      try replace h7t := of_decide_eq_true h7t
      refine AW.regionH (HeldBox b11 (lineVals (l.getD j default))) rfl (tells_box (k := 5) rfl) ?_
      refine AWH.tk (i := 0) rfl rfl rfl (B rfl) (heldAll (freeMove rfl (E rfl rfl))) ?_
      refine AWH.tk (i := 1) rfl rfl rfl (B rfl) (heldAll (freeField rfl fo_32_4 (E rfl rfl))) ?_
      refine AWH.tk (i := 2) rfl rfl rfl (B rfl) (heldLoad rfl ag_3 (E rfl rfl) rfl) ?_
      refine AWH.tk (i := 3) rfl rfl rfl (B rfl) (heldAll (freeMove rfl (E rfl rfl))) ?_
      refine AWH.tk (i := 4) rfl rfl rfl (B rfl) (heldAll (freeMove rfl (E rfl rfl))) ?_
      refine AWH.tk (i := 5) rfl rfl rfl (B rfl) (heldAll (freeMove rfl (E rfl rfl))) ?_
      refine AWH.tk (i := 6) rfl rfl rfl (B rfl) (heldAll (freeNil rfl (E rfl rfl))) ?_
      refine AWH.tk (i := 7) rfl rfl rfl (B rfl) (heldAll (freeField rfl fo_53_2 (E rfl rfl))) ?_
      refine AWH.tk (i := 9) rfl rfl rfl (B rfl) (heldAll (freeMove rfl (E rfl rfl))) ?_
      refine AWH.one (i := 8) (by kernel_rfl) rfl ?_
      refine AWL.y rfl rfl (B rfl) (Yv.loadBox rfl ag_51 (i := 0) rfl (E rfl rfl) rfl) ?_
      refine tb 5 rfl ?_
      refine AWH.one (i := 10) (by kernel_rfl) rfl ?_
      refine AWL.y rfl rfl (B rfl) (Yv.indexRow rfl ss_51 (i := 2) rfl (E rfl rfl) (E rfl rfl) (fun hg => ⟨rfl, by omega⟩)) ?_
      refine tb 5 rfl ?_
      refine AWH.one (i := 11) (by kernel_rfl) rfl ?_
      refine AWL.y rfl rfl (B rfl) (Yv.loadEp rfl ag_3 (i := 2) rfl (E rfl rfl) (fun hg => zi_get (by omega))) ?_
      refine tb 5 rfl ?_
      refine AWH.one (i := 12) (by kernel_rfl) rfl ?_
      refine AWL.y rfl rfl (B rfl) (Yv.indexRow (j := ((tgF l).getD j 0)) rfl ss_37 (i := 3) rfl (E rfl rfl) (E rfl rfl) (fun hg => ⟨rfl, by omega⟩)) ?_
      refine tb 5 rfl ?_
      refine AWH.one (i := 13) (by kernel_rfl) rfl ?_
      refine AWL.y rfl rfl (B rfl) (Yv.loadEp rfl ag_23 (i := 3) rfl (E rfl rfl) (fun hg => zu_get (by rw [plF_len, sizesF_len]; omega))) ?_
      refine tb 5 rfl ?_
      refine AWH.one (i := 14) (by kernel_rfl) rfl ?_
      refine AWL.y rfl rfl (B rfl) (Yv.addN_u64 rfl (E rfl rfl) (E rfl rfl) (fun hg => by omega)) ?_
      refine tb 5 rfl ?_
      refine AWH.one (i := 15) (by kernel_rfl) rfl ?_
      refine AWL.y rfl rfl (B rfl) (Yv.convN_i64 rfl Try.underlying23 kd_2 (E rfl rfl) (fun hg => by omega)) ?_
      refine tb 5 rfl ?_
      refine AWH.one (i := 16) (by kernel_rfl) rfl ?_
      refine AWL.y rfl rfl (B rfl) (Yv.buildS rfl sh_30 (evpC (E rfl rfl) (evpC (E rfl rfl) (evpC (E rfl rfl) evp0))) (fun _ => rfl)) ?_
      refine tb 5 rfl ?_
      refine AWH.one (i := 17) (by kernel_rfl) rfl ?_
      refine AWL.buildSliceE rfl rfl (B rfl) rfl el_24 (B rfl) rfl (evsC (E rfl rfl) evs0) (Nat.le_of_ble_eq_true rfl) rfl rfl ?_
      refine tb 5 rfl ?_
      refine AWH.one (i := 18) (by kernel_rfl) rfl ?_
      refine AWL.appendRow (i := 4) rfl rfl (B rfl) rfl el_24 (B rfl) rfl (E rfl rfl) (SrcT.sl so_24 (B rfl) (E rfl rfl) rfl) (by unfold maxLen; omega) (by omega) (fun A101 c101 => ?_)
      refine tb 5 rfl ?_
      refine AWH.one (i := 19) (by kernel_rfl) rfl ?_
      refine AWL.y rfl rfl (B rfl) (Yv.assign rfl (E rfl rfl)) ?_
      refine tb 5 rfl ?_
      refine AWH.done (by kernel_rfl) ?_
      refine AW.dropAt 5 ?_
      refine AW.region ?_
      refine AWL.y rfl rfl (B rfl) (Yv.addN_i64 rfl (E rfl rfl) (E rfl rfl) (fun hg => by omega)) ?_
      refine AWL.y rfl rfl (B rfl) (Yv.move rfl (E rfl rfl)) ?_
      refine AWL.nil ?_
      obtain ⟨hoL, hoC⟩ := outN_cells (l := l) (tg := (tgF l)) (sz := (sizesF l)) (at_ := at_) (j := j) (by rw [insAt, insF, if_neg (by omega), if_neg (by omega), if_neg (by omega), if_neg (by omega), if_pos (by omega)])
      refine ⟨j + 1, A101, c101, by omega, by omega, Sub.cons rfl rfl (Sub.cons rfl rfl (Sub.cons rfl rfl (Sub.cons rfl rfl (Sub.cons rfl (by rw [hoL]) (Sub.cons rfl rfl (Sub.cons rfl rfl (Sub.cons rfl (by simp) Sub.nil))))))), ?_⟩
      rw [hoL, hoC]
      rfl
     try replace h7f := of_decide_eq_false h7f
     refine AW.skip ?_
     refine AW.dropAt 5 ?_
     refine AW.region ?_
     refine AWL.y rfl rfl (B rfl) (Yv.addN_i64 rfl (E rfl rfl) (E rfl rfl) (fun hg => by omega)) ?_
     refine AWL.y rfl rfl (B rfl) (Yv.move rfl (E rfl rfl)) ?_
     refine AWL.nil ?_
     have hoN := outN_none (l := l) (tg := (tgF l)) (sz := (sizesF l)) (at_ := at_) (j := j) (by rw [insAt, insF, if_neg (by omega), if_neg (by omega), if_neg (by omega), if_neg (by omega), if_neg (by omega)])
     refine ⟨j + 1, Ao, co, by omega, by omega, Sub.cons rfl rfl (Sub.cons rfl rfl (Sub.cons rfl rfl (Sub.cons rfl rfl (Sub.cons rfl (by rw [hoN]) (Sub.cons rfl rfl (Sub.cons rfl rfl (Sub.cons rfl (by simp) Sub.nil))))))), ?_⟩
     rw [hoN]
     rfl
   try replace h1f := of_decide_eq_false h1f
   refine AW.exit ?_
   obtain rfl : j = l.length := by omega
   refine AW.freeze 4 9 rfl (B rfl) rfl ?_
   refine AW.rseq ?_
   refine AWL.y rfl rfl (B rfl) (Yv.move rfl (E rfl rfl)) ?_
   refine AWL.y rfl rfl (B rfl) (Yv.assign rfl (E rfl rfl)) ?_
   refine AWL.y rfl rfl (B rfl) (Yv.assign rfl (E rfl rfl)) ?_
   refine AWL.nil ?_
   refine AW.ret (retI (.tmp rfl (.tmp rfl .nil)) ?_)
   rw [resL_ok hle, hle]
   rfl

end Go.Proofs.Ytabkedlmpaoloaa
