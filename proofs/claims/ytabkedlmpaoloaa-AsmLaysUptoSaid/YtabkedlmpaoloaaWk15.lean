/-
  CONTRACTS of the document: instructions, lines; walked by program.
-/
import Derived.Test.YtabkedlmpaoloaaWk14
import Derived.Test.YtabkedlmpaoloaaRefP
namespace Go.Proofs.Ytabkedlmpaoloaa
open Go Go.RowKit
set_option linter.unusedVariables false
set_option linter.unnecessarySimpa false
set_option linter.unusedSimpArgs false

set_option maxHeartbeats 1000000 in
theorem refEncode52 (i : Ins) :
    ACalls Try.prog 52 [insT i] [] fun t_ S => t_ = .tup [u8s (refB i), .v (.int .i64 (refE i))] := by
  have hfl : formsF.length = 59 := rfl
  refine ACalls.intro Try.func52 rfl Try.ntmps52 (Nat.le_of_ble_eq_true rfl) rfl fun X w0 => ?_
  refine AW.rseq ?_
  refine AWL.boxOp rfl rfl (B rfl) rfl (E rfl rfl) rfl (fun b1 => ?_)
  refine AWL.y rfl rfl (B rfl) (Yv.assign rfl (E rfl rfl)) ?_
  refine AWL.y rfl rfl (B rfl) (Yv.assign rfl (E rfl rfl)) ?_
  refine AWL.nil ?_
  refine AW.rseq ?_
  refine AWL.callT rfl rfl (B rfl) rfl ce_50 (E rfl rfl) evs0 (forms50) ?_
  rintro t7 S7 rfl
  refine AWL.y rfl rfl (B rfl) (Yv.assign rfl (E rfl rfl)) ?_
  refine AWL.nil ?_
  refine AW.seq ?_
  refine AW.rseq ?_
  refine AWL.y rfl rfl (B rfl) (Yv.assign rfl (E rfl rfl)) ?_
  refine AWL.nil ?_
  refine AW.block ?_
  refine AW.loop (fun (j : Nat) => [(1, true, .v (.pointer (some ⟨b1, 0, none⟩))), (4, true, .sl 12 (formsF.flatMap formCells)), (5, true, .v (.int .i64 (j : Int)))]) (fun (j : Nat) => [.box b1 30 (insCells i)]) (fun (j : Nat) => j ≤ 59 ∧ ∀ k, k < j → fitsF (formsF.getD k default) i = false) (fun (j : Nat) => 59 - j) 0 ?_ ?_ ?_ ?_
  · exact ⟨Nat.zero_le _, fun i hi => by omega⟩
  · exact (Sub.cons rfl rfl (Sub.cons rfl rfl (Sub.cons rfl rfl Sub.nil)))
  · rfl
  ·
   intro j hinv
   obtain ⟨hj, hpre⟩ := hinv
   refine AW.seq ?_
   refine AW.rseq ?_
   refine AWL.y rfl rfl (B rfl) (Yv.move rfl (E rfl rfl)) ?_
   refine AWL.y rfl rfl (B rfl) (Yv.move rfl (E rfl rfl)) ?_
   refine AWL.y rfl rfl (B rfl) (Yv.lenSl rfl so_85 (B rfl) (E rfl rfl) len_forms) ?_
   refine AWL.y rfl rfl (B rfl) (Yv.lss rfl (E rfl rfl) (E rfl rfl)) ?_
   refine AWL.nil ?_
   refine AW.cond rfl (fun h0t => ?_) (fun h0f => ?_)
   ·
    try replace h0t := of_decide_eq_true h0t
    refine AW.skip ?_
    refine AW.seq ?_
    refine AW.block ?_
    refine AW.rseqH (HeldBox b1 (insVals i)) rfl (tells_box (k := 0) rfl) ?_
    refine AWH.take (i := 0) rfl (by kernel_rfl) (by kernel_rfl) (by kernel_rfl) rfl rfl (B rfl) (heldAll (freeMove rfl (E rfl rfl))) ?_
    refine AWH.take (i := 1) rfl (by kernel_rfl) (by kernel_rfl) (by kernel_rfl) rfl rfl (B rfl) (heldAll (freeMove rfl (E rfl rfl))) ?_
    refine AWH.take (i := 4) rfl (by kernel_rfl) (by kernel_rfl) (by kernel_rfl) rfl rfl (B rfl) (heldLoadA rfl ag_30 (E rfl rfl) rfl rfl rfl rfl) ?_
    refine AWH.one (i := 2) (by kernel_rfl) rfl ?_
    refine AWL.y rfl rfl (B rfl) (Yv.indexSl rfl ss_85 (B rfl) (E rfl rfl) (E rfl rfl) (fun hg => ⟨rfl, (by first | omega | (simp only [len_lines, len_inss, len_zu, len_ints, len_u8s, len_zq, len_forms]; omega))⟩)) ?_
    refine AWL.nil ⟨tells_box (k := 0) rfl, ?_⟩
    refine AWH.one (i := 3) (by kernel_rfl) rfl ?_
    refine AWL.y rfl rfl (B rfl) (Yv.loadRpA rfl ag_88 (E rfl rfl) (fun hg => form_get (by omega))) ?_
    refine AWL.nil ⟨tells_box (k := 0) rfl, ?_⟩
    refine AWH.one (i := 5) (by kernel_rfl) rfl ?_
    refine AWL.callP rfl rfl (B rfl) rfl ce_51 (E rfl rfl) (evsC (E rfl rfl) (evsC (E rfl rfl) evs0)) (fits51 (formsF.getD j default) i) (fun t S h => h) ?_
    refine AWL.nil ⟨tells_box (k := 0) rfl, ?_⟩
    refine AWH.one (i := 6) (by kernel_rfl) rfl ?_
    refine AWL.y rfl rfl (B rfl) (Yv.assign rfl (E rfl rfl)) ?_
    refine AWL.nil ⟨tells_box (k := 0) rfl, ?_⟩
    refine AWH.done (by kernel_rfl) ?_
    refine AW.rseq ?_
    refine AWL.y rfl rfl (B rfl) (Yv.move rfl (E rfl rfl)) ?_
    refine AWL.nil ?_
    refine AW.cond rfl (fun h1t => ?_) (fun h1f => ?_)
    ·
     try replace h1t := of_decide_eq_true h1t
     have hr := fits_range h1t
     refine AW.rseqH (HeldBox b1 (insVals i)) rfl (tells_box (k := 0) rfl) ?_
     refine AWH.take (i := 0) rfl (by kernel_rfl) (by kernel_rfl) (by kernel_rfl) rfl rfl (B rfl) (heldAll (freeMove rfl (E rfl rfl))) ?_
     refine AWH.take (i := 1) rfl (by kernel_rfl) (by kernel_rfl) (by kernel_rfl) rfl rfl (B rfl) (heldAll (freeMove rfl (E rfl rfl))) ?_
     refine AWH.take (i := 4) rfl (by kernel_rfl) (by kernel_rfl) (by kernel_rfl) rfl rfl (B rfl) (heldLoadA rfl ag_30 (E rfl rfl) rfl rfl rfl rfl) ?_
     refine AWH.one (i := 2) (by kernel_rfl) rfl ?_
     refine AWL.y rfl rfl (B rfl) (Yv.indexSl rfl ss_85 (B rfl) (E rfl rfl) (E rfl rfl) (fun hg => ⟨rfl, (by first | omega | (simp only [len_lines, len_inss, len_zu, len_ints, len_u8s, len_zq, len_forms]; omega))⟩)) ?_
     refine AWL.nil ⟨tells_box (k := 0) rfl, ?_⟩
     refine AWH.one (i := 3) (by kernel_rfl) rfl ?_
     refine AWL.y rfl rfl (B rfl) (Yv.loadRpA rfl ag_88 (E rfl rfl) (fun hg => form_get (by omega))) ?_
     refine AWL.nil ⟨tells_box (k := 0) rfl, ?_⟩
     refine AWH.one (i := 5) (by kernel_rfl) rfl ?_
     refine AWL.callT rfl rfl (B rfl) rfl ce_62 (E rfl rfl) (evsC (E rfl rfl) (evsC (E rfl rfl) evs0)) (bytes62 (formsF.getD j default) i (forms_ok _ (getD_mem' (by omega))) hr.1 hr.2.1 hr.2.2) ?_
     rintro t26 S26 rfl
     refine AWL.nil ⟨tells_box (k := 0) rfl, ?_⟩
     refine AWH.one (i := 6) (by kernel_rfl) rfl ?_
     refine AWL.y rfl rfl (B rfl) (Yv.assign rfl (E rfl rfl)) ?_
     refine AWL.nil ⟨tells_box (k := 0) rfl, ?_⟩
     refine AWH.one (i := 7) (by kernel_rfl) rfl ?_
     refine AWL.y rfl rfl (B rfl) (Yv.assign rfl (E rfl rfl)) ?_
     refine AWL.nil ⟨tells_box (k := 0) rfl, ?_⟩
     refine AWH.done (by kernel_rfl) ?_
     refine AW.ret (retI (.tmp rfl (.tmp rfl .nil)) ?_)
     have hrf := ref_at (i := i) (j := j) (by omega) hpre h1t
     rw [refB, refE, hrf]
     rfl
    try replace h1f := of_decide_eq_false h1f
    refine AW.skip ?_
    refine AW.region ?_
    refine AWL.y rfl rfl (B rfl) (Yv.move rfl (E rfl rfl)) ?_
    refine AWL.y rfl rfl (B rfl) (Yv.addN_i64 rfl (E rfl rfl) (E rfl rfl) (fun hg => by omega)) ?_
    refine AWL.y rfl rfl (B rfl) (Yv.assign rfl (E rfl rfl)) ?_
    refine AWL.nil ?_
    refine ⟨j + 1, ⟨by omega, fun k hk => ?_⟩, by omega, Sub.cons rfl rfl (Sub.cons rfl rfl (Sub.cons rfl (by simp) Sub.nil)), rfl⟩
    rcases Nat.lt_or_ge k j with h | h
    · exact hpre k h
    · rw [show k = j by omega]; exact h1f
   try replace h0f := of_decide_eq_false h0f
   refine AW.exit ?_
   refine AW.rseq ?_
   refine AWL.y rfl rfl (B rfl) (Yv.assign rfl (E rfl rfl)) ?_
   refine AWL.y rfl rfl (B rfl) (Yv.assign rfl (E rfl rfl)) ?_
   refine AWL.nil ?_
   refine AW.retype (k := 2) (t' := u8s []) rfl (nil_sl (by decide)) ?_
   refine AW.ret (retI (.tmp rfl (.tmp rfl .nil)) ?_)
   have hrf := ref_out (i := i) (fun k hk => hpre k (by omega))
   rw [refB, refE, hrf]
   rfl

set_option maxHeartbeats 1000000 in
theorem refValid29 (i : Ins) :
    ACalls Try.prog 29 [insT i] [] fun t_ S => t_ = .v (.bool (validF i)) := by
  have hfl : formsF.length = 59 := rfl
  refine ACalls.intro Try.func29 rfl Try.ntmps29 (Nat.le_of_ble_eq_true rfl) rfl fun X w0 => ?_
  refine AW.rseq ?_
  refine AWL.boxOp rfl rfl (B rfl) rfl (E rfl rfl) rfl (fun b1 => ?_)
  refine AWL.y rfl rfl (B rfl) (Yv.assign rfl (E rfl rfl)) ?_
  refine AWL.nil ?_
  refine AW.rseq ?_
  refine AWL.callT rfl rfl (B rfl) rfl ce_50 (E rfl rfl) evs0 (forms50) ?_
  rintro t6 S6 rfl
  refine AWL.y rfl rfl (B rfl) (Yv.assign rfl (E rfl rfl)) ?_
  refine AWL.nil ?_
  refine AW.seq ?_
  refine AW.rseq ?_
  refine AWL.y rfl rfl (B rfl) (Yv.assign rfl (E rfl rfl)) ?_
  refine AWL.nil ?_
  refine AW.block ?_
  refine AW.loop (fun (j : Nat) => [(1, true, .v (.pointer (some ⟨b1, 0, none⟩))), (3, true, .sl 12 (formsF.flatMap formCells)), (4, true, .v (.int .i64 (j : Int)))]) (fun (j : Nat) => [.box b1 30 (insCells i)]) (fun (j : Nat) => j ≤ 59 ∧ ∀ k, k < j → fitsF (formsF.getD k default) i = false) (fun (j : Nat) => 59 - j) 0 ?_ ?_ ?_ ?_
  · exact ⟨Nat.zero_le _, fun i hi => by omega⟩
  · exact (Sub.cons rfl rfl (Sub.cons rfl rfl (Sub.cons rfl rfl Sub.nil)))
  · rfl
  ·
   intro j hinv
   obtain ⟨hj, hpre⟩ := hinv
   refine AW.seq ?_
   refine AW.rseq ?_
   refine AWL.y rfl rfl (B rfl) (Yv.move rfl (E rfl rfl)) ?_
   refine AWL.y rfl rfl (B rfl) (Yv.move rfl (E rfl rfl)) ?_
   refine AWL.y rfl rfl (B rfl) (Yv.lenSl rfl so_85 (B rfl) (E rfl rfl) len_forms) ?_
   refine AWL.y rfl rfl (B rfl) (Yv.lss rfl (E rfl rfl) (E rfl rfl)) ?_
   refine AWL.nil ?_
   refine AW.cond rfl (fun h0t => ?_) (fun h0f => ?_)
   ·
    try replace h0t := of_decide_eq_true h0t
    refine AW.skip ?_
    refine AW.seq ?_
    refine AW.block ?_
    refine AW.rseqH (HeldBox b1 (insVals i)) rfl (tells_box (k := 0) rfl) ?_
    refine AWH.take (i := 0) rfl (by kernel_rfl) (by kernel_rfl) (by kernel_rfl) rfl rfl (B rfl) (heldAll (freeMove rfl (E rfl rfl))) ?_
    refine AWH.take (i := 1) rfl (by kernel_rfl) (by kernel_rfl) (by kernel_rfl) rfl rfl (B rfl) (heldAll (freeMove rfl (E rfl rfl))) ?_
    refine AWH.take (i := 4) rfl (by kernel_rfl) (by kernel_rfl) (by kernel_rfl) rfl rfl (B rfl) (heldLoadA rfl ag_30 (E rfl rfl) rfl rfl rfl rfl) ?_
    refine AWH.one (i := 2) (by kernel_rfl) rfl ?_
    refine AWL.y rfl rfl (B rfl) (Yv.indexSl rfl ss_85 (B rfl) (E rfl rfl) (E rfl rfl) (fun hg => ⟨rfl, (by first | omega | (simp only [len_lines, len_inss, len_zu, len_ints, len_u8s, len_zq, len_forms]; omega))⟩)) ?_
    refine AWL.nil ⟨tells_box (k := 0) rfl, ?_⟩
    refine AWH.one (i := 3) (by kernel_rfl) rfl ?_
    refine AWL.y rfl rfl (B rfl) (Yv.loadRpA rfl ag_88 (E rfl rfl) (fun hg => form_get (by omega))) ?_
    refine AWL.nil ⟨tells_box (k := 0) rfl, ?_⟩
    refine AWH.one (i := 5) (by kernel_rfl) rfl ?_
    refine AWL.callP rfl rfl (B rfl) rfl ce_51 (E rfl rfl) (evsC (E rfl rfl) (evsC (E rfl rfl) evs0)) (fits51 (formsF.getD j default) i) (fun t S h => h) ?_
    refine AWL.nil ⟨tells_box (k := 0) rfl, ?_⟩
    refine AWH.one (i := 6) (by kernel_rfl) rfl ?_
    refine AWL.y rfl rfl (B rfl) (Yv.assign rfl (E rfl rfl)) ?_
    refine AWL.nil ⟨tells_box (k := 0) rfl, ?_⟩
    refine AWH.done (by kernel_rfl) ?_
    refine AW.rseq ?_
    refine AWL.y rfl rfl (B rfl) (Yv.move rfl (E rfl rfl)) ?_
    refine AWL.nil ?_
    refine AW.cond rfl (fun h1t => ?_) (fun h1f => ?_)
    ·
     try replace h1t := of_decide_eq_true h1t
     refine AW.rseq ?_
     refine AWL.y rfl rfl (B rfl) (Yv.assign rfl (E rfl rfl)) ?_
     refine AWL.nil ?_
     refine AW.ret (retI (.tmp rfl .nil) ?_)
     have hrf := ref_at (i := i) (j := j) (by omega) hpre h1t
     rw [← ref_valid, hrf]
     rfl
    try replace h1f := of_decide_eq_false h1f
    refine AW.skip ?_
    refine AW.region ?_
    refine AWL.y rfl rfl (B rfl) (Yv.move rfl (E rfl rfl)) ?_
    refine AWL.y rfl rfl (B rfl) (Yv.addN_i64 rfl (E rfl rfl) (E rfl rfl) (fun hg => by omega)) ?_
    refine AWL.y rfl rfl (B rfl) (Yv.assign rfl (E rfl rfl)) ?_
    refine AWL.nil ?_
    refine ⟨j + 1, ⟨by omega, fun k hk => ?_⟩, by omega, Sub.cons rfl rfl (Sub.cons rfl rfl (Sub.cons rfl (by simp) Sub.nil)), rfl⟩
    rcases Nat.lt_or_ge k j with h | h
    · exact hpre k h
    · rw [show k = j by omega]; exact h1f
   try replace h0f := of_decide_eq_false h0f
   refine AW.exit ?_
   refine AW.rseq ?_
   refine AWL.y rfl rfl (B rfl) (Yv.assign rfl (E rfl rfl)) ?_
   refine AWL.nil ?_
   refine AW.ret (retI (.tmp rfl .nil) ?_)
   have hrf := ref_out (i := i) (fun k hk => hpre k (by omega))
   rw [← ref_valid, hrf]
   rfl

theorem refEncode_ (i : Ins) : ACalls Try.prog 52 [insT i] [] (fun t_ S => t_ = .tup [u8s (if validF i = true then encF i else []), .v (.int .i64 (encE i))]) := by
  rw [← ref_bytes, ← ref_err]
  exact refEncode52 i
set_option maxHeartbeats 1000000 in
theorem refAll31 (l : List Ins) (hl : l.length ≤ NL) :
    ACalls Try.prog 31 [inssT l] [] (fun t_ S => t_ = .tup [u8s (allB l), .v (.int .i64 (allE l))]) := by
  have hnl : l.length ≤ 1099511627 := hl
  refine ACalls.intro Try.func31 rfl Try.ntmps31 (Nat.le_of_ble_eq_true rfl) rfl fun X w0 => ?_
  refine AW.rseq ?_
  refine AWL.y rfl rfl (B rfl) (Yv.assign rfl (E rfl rfl)) ?_
  refine AWL.y rfl rfl (B rfl) (Yv.assign rfl (E rfl rfl)) ?_
  refine AWL.nil ?_
  refine AW.rseq ?_
  refine AWL.y rfl rfl (B rfl) (Yv.assign rfl (E rfl rfl)) ?_
  refine AWL.nil ?_
  refine AW.rowNil 5 1 ?_
  refine AW.seq ?_
  refine AW.rseq ?_
  refine AWL.y rfl rfl (B rfl) (Yv.assign rfl (E rfl rfl)) ?_
  refine AWL.nil ?_
  refine AW.block ?_
  refine AW.loop3 (fun (j : Nat) (Ao : Option Addr) (co : Nat) => [(0, true, inssT l), (4, true, .v (.slice Ao ((l.take j).flatMap encF).length co)), (5, true, .v (.int .i64 (j : Int)))]) (fun (j : Nat) (Ao : Option Addr) (co : Nat) => [.row Ao ((l.take j).flatMap encF).length co 5 1 (((l.take j).flatMap encF).map u8)]) (fun (j : Nat) (Ao : Option Addr) (co : Nat) => j ≤ l.length ∧ ∀ i, i < j → validF (l.getD i default) = true) (fun (j : Nat) (Ao : Option Addr) (co : Nat) => l.length - j) 0 none 0 ?_ ?_ ?_ ?_
  · exact ⟨Nat.zero_le _, fun i hi => by omega⟩
  · exact (Sub.cons rfl rfl (Sub.cons rfl rfl (Sub.cons rfl rfl Sub.nil)))
  · rfl
  ·
   intro j Ao co hinv
   obtain ⟨hj, hpre⟩ := hinv
   have hb1 := enc_le (l.take j)
   have hb2 := List.length_take_le j l
   have hb3 := encF_len (l.getD j default)
   refine AW.seq ?_
   refine AW.rseq ?_
   refine AWL.y rfl rfl (B rfl) (Yv.move rfl (E rfl rfl)) ?_
   refine AWL.y rfl rfl (B rfl) (Yv.move rfl (E rfl rfl)) ?_
   refine AWL.y rfl rfl (B rfl) (Yv.lenSl rfl so_24 (B rfl) (E rfl rfl) len_inss) ?_
   refine AWL.y rfl rfl (B rfl) (Yv.lss rfl (E rfl rfl) (E rfl rfl)) ?_
   refine AWL.nil ?_
   refine AW.cond rfl (fun h0t => ?_) (fun h0f => ?_)
   ·
    try replace h0t := of_decide_eq_true h0t
    refine AW.skip ?_
    refine AW.seq ?_
    refine AW.block ?_
    refine AW.rseq ?_
    refine AWL.y rfl rfl (B rfl) (Yv.move rfl (E rfl rfl)) ?_
    refine AWL.y rfl rfl (B rfl) (Yv.move rfl (E rfl rfl)) ?_
    refine AWL.y rfl rfl (B rfl) (Yv.indexSl rfl ss_24 (B rfl) (E rfl rfl) (E rfl rfl) (fun hg => ⟨rfl, (by first | omega | (simp only [len_lines, len_inss, len_zu, len_ints, len_u8s, len_zq, len_forms]; omega))⟩)) ?_
    refine AWL.y rfl rfl (B rfl) (Yv.loadRpA rfl ag_30 (E rfl rfl) (fun hg => ins_get (by omega))) ?_
    refine AWL.callT rfl rfl (B rfl) rfl ce_52 (E rfl rfl) (evsC (E rfl rfl) evs0) (refEncode_ (l.getD j default)) ?_
    rintro t19 S19 rfl
    refine AWL.y rfl rfl (B rfl) (Yv.move rfl (E rfl rfl)) ?_
    refine AWL.y rfl rfl (B rfl) (Yv.extract rfl (E rfl rfl) rfl) ?_
    refine AWL.y rfl rfl (B rfl) (Yv.extract rfl (E rfl rfl) rfl) ?_
    refine AWL.y rfl rfl (B rfl) (Yv.assign rfl (E rfl rfl)) ?_
    refine AWL.y rfl rfl (B rfl) (Yv.assign rfl (E rfl rfl)) ?_
    refine AWL.nil ?_
    refine AW.seq ?_
    refine AW.rseq ?_
    refine AWL.y rfl rfl (B rfl) (Yv.move rfl (E rfl rfl)) ?_
    refine AWL.y rfl rfl (B rfl) (Yv.neq rfl (E rfl rfl) (E rfl rfl)) ?_
    refine AWL.nil ?_
    refine AW.cond rfl (fun h1t => ?_) (fun h1f => ?_)
    ·
     try replace h1t := of_decide_eq_true h1t
     have hvj : ¬ validF (l.getD j default) = true := by rw [encE] at h1t; intro q; rw [if_pos q] at h1t; exact absurd h1t (by decide)
     refine AW.rseq ?_
     refine AWL.y rfl rfl (B rfl) (Yv.move rfl (E rfl rfl)) ?_
     refine AWL.y rfl rfl (B rfl) (Yv.assign rfl (E rfl rfl)) ?_
     refine AWL.y rfl rfl (B rfl) (Yv.assign rfl (E rfl rfl)) ?_
     refine AWL.nil ?_
     refine AW.retype (k := 2) (t' := u8s []) rfl (nil_sl (by decide)) ?_
     refine AW.ret (retI (.tmp rfl (.tmp rfl .nil)) ?_)
     rw [allB, allE, if_neg (all_bad (by omega) hvj), if_neg (all_bad (by omega) hvj), encE, if_neg hvj]
     rfl
    try replace h1f := of_decide_eq_false h1f
    have hvj : validF (l.getD j default) = true := by rw [encE] at h1f; by_cases q : validF (l.getD j default) = true; exact q; rw [if_neg q] at h1f; exact absurd h1f (by decide)
    refine AW.skip ?_
    rw [show (if validF (l.getD j default) = true then encF (l.getD j default) else []) = encF (l.getD j default) from if_pos hvj]
    refine AW.region ?_
    refine AWL.y rfl rfl (B rfl) (Yv.move rfl (E rfl rfl)) ?_
    refine AWL.y rfl rfl (B rfl) (Yv.move rfl (E rfl rfl)) ?_
    refine AWL.appendRow (i := 0) rfl rfl (B rfl) rfl el_40 (B rfl) rfl (E rfl rfl) (SrcT.sl so_40 (B rfl) (E rfl rfl) len_u8s) (by unfold maxLen; omega) (by omega) (fun A27 c27 => ?_)
    refine AWL.y rfl rfl (B rfl) (Yv.assign rfl (E rfl rfl)) ?_
    refine AWL.nil ?_
    refine AW.region ?_
    refine AWL.y rfl rfl (B rfl) (Yv.move rfl (E rfl rfl)) ?_
    refine AWL.y rfl rfl (B rfl) (Yv.addN_i64 rfl (E rfl rfl) (E rfl rfl) (fun hg => by omega)) ?_
    refine AWL.y rfl rfl (B rfl) (Yv.assign rfl (E rfl rfl)) ?_
    refine AWL.nil ?_
    obtain ⟨heL, heC⟩ := enc_step (l := l) (j := j) (by omega)
    refine ⟨j + 1, A27, c27, ⟨by omega, fun i hi => ?_⟩, by omega, Sub.cons rfl rfl (Sub.cons rfl (by rw [heL]) (Sub.cons rfl (by simp) Sub.nil)), ?_⟩
    · rcases Nat.lt_or_ge i j with h | h
      · exact hpre i h
      · rw [show i = j by omega]; exact hvj
    rw [heL, heC]
    rfl
   try replace h0f := of_decide_eq_false h0f
   refine AW.exit ?_
   obtain rfl : j = l.length := by omega
   rw [List.take_length]
   refine AW.freeze 0 4 rfl (B rfl) rfl ?_
   refine AW.rseq ?_
   refine AWL.y rfl rfl (B rfl) (Yv.move rfl (E rfl rfl)) ?_
   refine AWL.y rfl rfl (B rfl) (Yv.assign rfl (E rfl rfl)) ?_
   refine AWL.y rfl rfl (B rfl) (Yv.assign rfl (E rfl rfl)) ?_
   refine AWL.nil ?_
   refine AW.ret (retI (.tmp rfl (.tmp rfl .nil)) ?_)
   rw [allB, allE, if_pos (all_good (fun i hi => hpre i (by omega))), if_pos (all_good (fun i hi => hpre i (by omega)))]
   rfl

set_option maxHeartbeats 400000 in
theorem refgoes30 (k : Int) :
    ACalls Try.prog 30 [.v (.int .i64 k)] [] fun t_ S => t_ = .v (.bool (goesF k)) := by
  refine ACalls.intro Try.func30 rfl Try.ntmps30 (Nat.le_of_ble_eq_true rfl) rfl fun X w0 => ?_
  refine AW.rseq ?_
  refine AWL.y rfl rfl (B rfl) (Yv.assign rfl (E rfl rfl)) ?_
  refine AWL.nil ?_
  refine AW.rseq ?_
  refine AWL.y rfl rfl (B rfl) (Yv.move rfl (E rfl rfl)) ?_
  refine AWL.y rfl rfl (B rfl) (Yv.eql rfl (E rfl rfl) (E rfl rfl)) ?_
  refine AWL.y rfl rfl (B rfl) (Yv.move rfl (E rfl rfl)) ?_
  refine AWL.ygF rfl rfl rfl rfl (B rfl) (Yv.move rfl (E rfl rfl)) ?_
  refine AWL.ygF rfl rfl rfl rfl (B rfl) (Yv.eql rfl (Eg rfl rfl id) (E rfl rfl)) ?_
  refine AWL.y rfl rfl (B rfl) (Yv.pickOr (t := .const (.bool true)) rfl (E rfl rfl) (Eg rfl rfl id)) ?_
  refine AWL.y rfl rfl (B rfl) (Yv.move rfl (E rfl rfl)) ?_
  refine AWL.ygF rfl rfl rfl rfl (B rfl) (Yv.move rfl (E rfl rfl)) ?_
  refine AWL.ygF rfl rfl rfl rfl (B rfl) (Yv.eql rfl (Eg rfl rfl id) (E rfl rfl)) ?_
  refine AWL.y rfl rfl (B rfl) (Yv.pickOr (t := .const (.bool true)) rfl (E rfl rfl) (Eg rfl rfl id)) ?_
  refine AWL.y rfl rfl (B rfl) (Yv.move rfl (E rfl rfl)) ?_
  refine AWL.ygF rfl rfl rfl rfl (B rfl) (Yv.move rfl (E rfl rfl)) ?_
  refine AWL.ygF rfl rfl rfl rfl (B rfl) (Yv.eql rfl (Eg rfl rfl id) (E rfl rfl)) ?_
  refine AWL.y rfl rfl (B rfl) (Yv.pickOr (t := .const (.bool true)) rfl (E rfl rfl) (Eg rfl rfl id)) ?_
  refine AWL.y rfl rfl (B rfl) (Yv.assign rfl (E rfl rfl)) ?_
  refine AWL.nil ?_
  refine AW.ret (retI (.tmp rfl .nil) ?_)
  rfl

set_option maxHeartbeats 1000000 in
theorem line26 (x : Line) (z way to : Int) :
    ACalls Try.prog 26 [.agg (lineCells x), .v (.int .i64 z), .v (.int .i64 way), .v (.int .i64 to)] [] fun t_ S => t_ = .tup [insT ((lineO x z way to).getD noIns), .v (.bool (lineO x z way to).isSome)] := by
  refine ACalls.intro Try.func26 rfl Try.ntmps26 (Nat.le_of_ble_eq_true rfl) rfl fun X w0 => ?_
  refine AW.rseq ?_
  refine AWL.boxOp rfl rfl (B rfl) rfl (E rfl rfl) rfl (fun b4 => ?_)
  refine AWL.allocOp rfl rfl (B rfl) rfl zc_30 (fun b8 => ?_)
  refine AWL.y rfl rfl (B rfl) (Yv.assign rfl (E rfl rfl)) ?_
  refine AWL.nil ?_
  refine AW.seq ?_
  refine AW.rseq ?_
  refine AWL.y rfl rfl (B rfl) (Yv.fieldBox rfl fo_32_0 (E rfl rfl)) ?_
  refine AWL.y rfl rfl (B rfl) (Yv.loadBox rfl ag_3 (i := 0) rfl (E rfl rfl) rfl) ?_
  refine AWL.nil ?_
  refine AW.block ?_
  refine AW.rseq ?_
  refine AWL.y rfl rfl (B rfl) (Yv.eql rfl (E rfl rfl) (E rfl rfl)) ?_
  refine AWL.y rfl rfl (B rfl) (Yv.assign rfl (E rfl rfl)) ?_
  refine AWL.nil ?_
  refine AW.cond rfl (fun h0t => ?_) (fun h0f => ?_)
  ·
   try replace h0t := of_decide_eq_true h0t
   refine AW.rseq ?_
   refine AWL.y rfl rfl (B rfl) (Yv.fieldBox rfl fo_32_1 (E rfl rfl)) ?_
   refine AWL.y rfl rfl (B rfl) (Yv.loadBoxA rfl ag_30 (i := 0) rfl (E rfl rfl) rfl rfl) ?_
   refine AWL.storeBox (i := 1) rfl rfl rfl ag_30 rfl (E rfl rfl) (E rfl rfl) rfl rfl (Nat.le_of_ble_eq_true rfl) ?_
   refine AWL.y rfl rfl (B rfl) (Yv.assign rfl (E rfl rfl)) ?_
   refine AWL.nil ?_
   refine AW.ret (retI (.cellA (i := 1) rfl ag_30 rfl rfl rfl (.tmp rfl .nil)) ?_)
   rw [lineO, if_pos h0t]
   rfl
  try replace h0f := of_decide_eq_false h0f
  refine AW.rseq ?_
  refine AWL.y rfl rfl (B rfl) (Yv.eql rfl (E rfl rfl) (E rfl rfl)) ?_
  refine AWL.y rfl rfl (B rfl) (Yv.assign rfl (E rfl rfl)) ?_
  refine AWL.nil ?_
  refine AW.cond rfl (fun h1t => ?_) (fun h1f => ?_)
  ·
   try replace h1t := of_decide_eq_true h1t
   refine AW.rseq ?_
   refine AWL.y rfl rfl (B rfl) (Yv.move rfl (E rfl rfl)) ?_
   refine AWL.y rfl rfl (B rfl) (Yv.move rfl (E rfl rfl)) ?_
   refine AWL.y rfl rfl (B rfl) (Yv.buildS rfl sh_30 (evpC (E rfl rfl) (evpC (E rfl rfl) (evpC (E rfl rfl) evp0))) (fun _ => rfl)) ?_
   refine AWL.storeBox (i := 1) rfl rfl rfl ag_30 rfl (E rfl rfl) (E rfl rfl) rfl rfl (Nat.le_of_ble_eq_true rfl) ?_
   refine AWL.y rfl rfl (B rfl) (Yv.assign rfl (E rfl rfl)) ?_
   refine AWL.nil ?_
   refine AW.ret (retI (.cellA (i := 1) rfl ag_30 rfl rfl rfl (.tmp rfl .nil)) ?_)
   rw [lineO, if_neg h0f, if_pos h1t]
   rfl
  try replace h1f := of_decide_eq_false h1f
  refine AW.rseq ?_
  refine AWL.y rfl rfl (B rfl) (Yv.eql rfl (E rfl rfl) (E rfl rfl)) ?_
  refine AWL.y rfl rfl (B rfl) (Yv.assign rfl (E rfl rfl)) ?_
  refine AWL.nil ?_
  refine AW.cond rfl (fun h2t => ?_) (fun h2f => ?_)
  ·
   try replace h2t := of_decide_eq_true h2t
   refine AW.rseq ?_
   refine AWL.y rfl rfl (B rfl) (Yv.move rfl (E rfl rfl)) ?_
   refine AWL.y rfl rfl (B rfl) (Yv.fieldBox rfl fo_32_3 (E rfl rfl)) ?_
   refine AWL.y rfl rfl (B rfl) (Yv.loadBox rfl ag_3 (i := 0) rfl (E rfl rfl) rfl) ?_
   refine AWL.y rfl rfl (B rfl) (Yv.move rfl (E rfl rfl)) ?_
   refine AWL.y rfl rfl (B rfl) (Yv.buildS rfl sh_30 (evpC (E rfl rfl) (evpC (E rfl rfl) (evpC (E rfl rfl) (evpC (E rfl rfl) evp0)))) (fun _ => rfl)) ?_
   refine AWL.storeBox (i := 1) rfl rfl rfl ag_30 rfl (E rfl rfl) (E rfl rfl) rfl rfl (Nat.le_of_ble_eq_true rfl) ?_
   refine AWL.y rfl rfl (B rfl) (Yv.assign rfl (E rfl rfl)) ?_
   refine AWL.nil ?_
   refine AW.ret (retI (.cellA (i := 1) rfl ag_30 rfl rfl rfl (.tmp rfl .nil)) ?_)
   rw [lineO, if_neg h0f, if_neg h1f, if_pos h2t]
   rfl
  try replace h2f := of_decide_eq_false h2f
  refine AW.rseq ?_
  refine AWL.y rfl rfl (B rfl) (Yv.eql rfl (E rfl rfl) (E rfl rfl)) ?_
  refine AWL.y rfl rfl (B rfl) (Yv.assign rfl (E rfl rfl)) ?_
  refine AWL.nil ?_
  refine AW.cond rfl (fun h3t => ?_) (fun h3f => ?_)
  ·
   try replace h3t := of_decide_eq_true h3t
   refine AW.rseq ?_
   refine AWL.y rfl rfl (B rfl) (Yv.move rfl (E rfl rfl)) ?_
   refine AWL.y rfl rfl (B rfl) (Yv.buildS rfl sh_30 (evpC (E rfl rfl) (evpC (E rfl rfl) evp0)) (fun _ => rfl)) ?_
   refine AWL.storeBox (i := 1) rfl rfl rfl ag_30 rfl (E rfl rfl) (E rfl rfl) rfl rfl (Nat.le_of_ble_eq_true rfl) ?_
   refine AWL.y rfl rfl (B rfl) (Yv.assign rfl (E rfl rfl)) ?_
   refine AWL.nil ?_
   refine AW.ret (retI (.cellA (i := 1) rfl ag_30 rfl rfl rfl (.tmp rfl .nil)) ?_)
   rw [lineO, if_neg h0f, if_neg h1f, if_neg h2f, if_pos h3t]
   rfl
  try replace h3f := of_decide_eq_false h3f
  refine AW.rseq ?_
  refine AWL.y rfl rfl (B rfl) (Yv.eql rfl (E rfl rfl) (E rfl rfl)) ?_
  refine AWL.y rfl rfl (B rfl) (Yv.assign rfl (E rfl rfl)) ?_
  refine AWL.nil ?_
  refine AW.cond rfl (fun h4t => ?_) (fun h4f => ?_)
  ·
   try replace h4t := of_decide_eq_true h4t
   refine AW.rseq ?_
   refine AWL.y rfl rfl (B rfl) (Yv.fieldBox rfl fo_32_4 (E rfl rfl)) ?_
   refine AWL.y rfl rfl (B rfl) (Yv.loadBox rfl ag_3 (i := 0) rfl (E rfl rfl) rfl) ?_
   refine AWL.y rfl rfl (B rfl) (Yv.move rfl (E rfl rfl)) ?_
   refine AWL.y rfl rfl (B rfl) (Yv.buildS rfl sh_30 (evpC (E rfl rfl) (evpC (E rfl rfl) (evpC (E rfl rfl) evp0))) (fun _ => rfl)) ?_
   refine AWL.storeBox (i := 1) rfl rfl rfl ag_30 rfl (E rfl rfl) (E rfl rfl) rfl rfl (Nat.le_of_ble_eq_true rfl) ?_
   refine AWL.y rfl rfl (B rfl) (Yv.assign rfl (E rfl rfl)) ?_
   refine AWL.nil ?_
   refine AW.ret (retI (.cellA (i := 1) rfl ag_30 rfl rfl rfl (.tmp rfl .nil)) ?_)
   rw [lineO, if_neg h0f, if_neg h1f, if_neg h2f, if_neg h3f, if_pos h4t]
   rfl
  try replace h4f := of_decide_eq_false h4f
  refine AW.skip ?_
  refine AW.rseq ?_
  refine AWL.y rfl rfl (B rfl) (Yv.buildS rfl sh_30 evp0 (fun _ => rfl)) ?_
  refine AWL.storeBox (i := 1) rfl rfl rfl ag_30 rfl (E rfl rfl) (E rfl rfl) rfl rfl (Nat.le_of_ble_eq_true rfl) ?_
  refine AWL.y rfl rfl (B rfl) (Yv.assign rfl (E rfl rfl)) ?_
  refine AWL.nil ?_
  refine AW.ret (retI (.cellA (i := 1) rfl ag_30 rfl rfl rfl (.tmp rfl .nil)) ?_)
  rw [lineO, if_neg h0f, if_neg h1f, if_neg h2f, if_neg h3f, if_neg h4f]
  rfl

set_option maxHeartbeats 1000000 in
theorem length45 (x : Line) (z : Int) :
    ACalls Try.prog 45 [.agg (lineCells x), .v (.int .i64 z)] [] fun t_ S => t_ = .v (.int .i64 (lenR x z : Int)) := by
  refine ACalls.intro Try.func45 rfl Try.ntmps45 (Nat.le_of_ble_eq_true rfl) rfl fun X w0 => ?_
  refine AW.rseq ?_
  refine AWL.boxOp rfl rfl (B rfl) rfl (E rfl rfl) rfl (fun b2 => ?_)
  refine AWL.y rfl rfl (B rfl) (Yv.assign rfl (E rfl rfl)) ?_
  refine AWL.nil ?_
  refine AW.rseq ?_
  refine AWL.y rfl rfl (B rfl) (Yv.loadBoxA rfl ag_32 (i := 0) rfl (E rfl rfl) rfl rfl) ?_
  refine AWL.y rfl rfl (B rfl) (Yv.move rfl (E rfl rfl)) ?_
  refine AWL.callT rfl rfl (B rfl) rfl ce_26 (E rfl rfl) (evsC (E rfl rfl) (evsC (E rfl rfl) (evsC (E rfl rfl) (evsC (E rfl rfl) evs0)))) (line26 x z 0 0) ?_
  rintro t12 S12 rfl
  refine AWL.y rfl rfl (B rfl) (Yv.move rfl (E rfl rfl)) ?_
  refine AWL.y rfl rfl (B rfl) (Yv.extract rfl (E rfl rfl) rfl) ?_
  refine AWL.y rfl rfl (B rfl) (Yv.extract rfl (E rfl rfl) rfl) ?_
  refine AWL.allocOp rfl rfl (B rfl) rfl zc_30 (fun b5 => ?_)
  refine AWL.storeBox (i := 1) rfl rfl rfl ag_30 rfl (E rfl rfl) (E rfl rfl) rfl rfl (Nat.le_of_ble_eq_true rfl) ?_
  refine AWL.y rfl rfl (B rfl) (Yv.assign rfl (E rfl rfl)) ?_
  refine AWL.nil ?_
  refine AW.seq ?_
  refine AW.rseq ?_
  refine AWL.y rfl rfl (B rfl) (Yv.move rfl (E rfl rfl)) ?_
  refine AWL.y rfl rfl (B rfl) (Yv.not rfl (E rfl rfl)) ?_
  refine AWL.nil ?_
  refine AW.cond rfl (fun h0t => ?_) (fun h0f => ?_)
  ·
   try replace h0t := of_decide_eq_true h0t
   refine AW.rseq ?_
   refine AWL.y rfl rfl (B rfl) (Yv.assign rfl (E rfl rfl)) ?_
   refine AWL.nil ?_
   refine AW.ret (retI (.tmp rfl .nil) ?_)
   rw [lenR]
   cases hq : lineO x z 0 0 with
   | none => rfl
   | some i => rw [hq] at h0t; cases h0t
  try replace h0f := of_decide_eq_false h0f
  refine AW.skip ?_
  refine AW.rseq ?_
  refine AWL.y rfl rfl (B rfl) (Yv.loadBoxA rfl ag_30 (i := 1) rfl (E rfl rfl) rfl rfl) ?_
  refine AWL.callT rfl rfl (B rfl) rfl ce_52 (E rfl rfl) (evsC (E rfl rfl) evs0) (refEncode_ ((lineO x z 0 0).getD noIns)) ?_
  rintro t19 S19 rfl
  refine AWL.y rfl rfl (B rfl) (Yv.move rfl (E rfl rfl)) ?_
  refine AWL.y rfl rfl (B rfl) (Yv.extract rfl (E rfl rfl) rfl) ?_
  refine AWL.y rfl rfl (B rfl) (Yv.extract rfl (E rfl rfl) rfl) ?_
  refine AWL.y rfl rfl (B rfl) (Yv.assign rfl (E rfl rfl)) ?_
  refine AWL.y rfl rfl (B rfl) (Yv.assign rfl (E rfl rfl)) ?_
  refine AWL.nil ?_
  refine AW.rseq ?_
  refine AWL.y rfl rfl (B rfl) (Yv.move rfl (E rfl rfl)) ?_
  refine AWL.y rfl rfl (B rfl) (Yv.lenSl rfl so_40 (B rfl) (E rfl rfl) len_u8s) ?_
  refine AWL.y rfl rfl (B rfl) (Yv.assign rfl (E rfl rfl)) ?_
  refine AWL.nil ?_
  refine AW.ret (retI (.tmp rfl .nil) ?_)
  rw [lenR]
  cases hq : lineO x z 0 0 with
  | none => rw [hq] at h0f; cases h0f
  | some i => rfl

set_option maxHeartbeats 400000 in
theorem far25 (a e : Int) (a0 : 0 ≤ a) (e0 : 0 ≤ e) (e1 : e ≤ 9223372036854775807) :
    ACalls Try.prog 25 [.v (.int .u64 a), .v (.int .i64 e)] [] fun t_ S => t_ = .v (.bool (decide (2147483647 < a) || decide (2147483647 - a < e))) := by
  refine ACalls.intro Try.func25 rfl Try.ntmps25 (Nat.le_of_ble_eq_true rfl) rfl fun X w0 => ?_
  refine AW.rseq ?_
  refine AWL.y rfl rfl (B rfl) (Yv.assign rfl (E rfl rfl)) ?_
  refine AWL.nil ?_
  refine AW.rseq ?_
  refine AWL.y rfl rfl (B rfl) (Yv.move rfl (E rfl rfl)) ?_
  refine AWL.y rfl rfl (B rfl) (Yv.gtr rfl (E rfl rfl) (E rfl rfl)) ?_
  refine AWL.y rfl rfl (B rfl) (Yv.move rfl (E rfl rfl)) ?_
  refine AWL.ygF rfl rfl rfl rfl (B rfl) (Yv.move rfl (E rfl rfl)) ?_
  refine AWL.ygF rfl rfl rfl rfl (B rfl) (Yv.convN_u64 rfl Try.underlying2 kd_23 (Eg rfl rfl id) (fun hg => by first | omega | (simp only [Bool.and_eq_true, Bool.or_eq_false_iff, Bool.not_eq_true', Bool.not_eq_false', decide_eq_true_eq, decide_eq_false_iff_not] at hg; omega))) ?_
  refine AWL.ygF rfl rfl rfl rfl (B rfl) (Yv.move rfl (E rfl rfl)) ?_
  refine AWL.ygF rfl rfl rfl rfl (B rfl) (Yv.subN_u64 rfl (E rfl rfl) (Eg rfl rfl id) (fun hg => by first | omega | (simp only [Bool.and_eq_true, Bool.or_eq_false_iff, Bool.not_eq_true', Bool.not_eq_false', decide_eq_true_eq, decide_eq_false_iff_not] at hg; omega))) ?_
  refine AWL.ygF rfl rfl rfl rfl (B rfl) (Yv.gtr rfl (Eg rfl rfl id) (Eg rfl rfl id)) ?_
  refine AWL.y rfl rfl (B rfl) (Yv.pickOr (t := .const (.bool true)) rfl (E rfl rfl) (Eg rfl rfl id)) ?_
  refine AWL.y rfl rfl (B rfl) (Yv.assign rfl (E rfl rfl)) ?_
  refine AWL.nil ?_
  refine AW.ret (retI (.tmp rfl .nil) ?_)
  rfl

end Go.Proofs.Ytabkedlmpaoloaa
