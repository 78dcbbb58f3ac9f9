/-
  CONTRACT of AsmMoves; walked by program.
-/
import Derived.Test.YtabkedlmpaoloaaWk9
import Derived.Test.YtabkedlmpaoloaaMoves
namespace Go.Proofs.Ytabkedlmpaoloaa
open Go Go.RowKit
set_option linter.unusedVariables false
set_option linter.unnecessarySimpa false
set_option linter.unusedSimpArgs false

set_option maxHeartbeats 2000000 in
theorem AsmMoves3 (l : List Line) (hl : l.length ≤ 1048576) (hlo : ∀ x ∈ l, I64 x.l) (at_ by_ other : Int) (f0 : 0 ≤ at_) (f1 : 0 ≤ other) :
    ACalls Try.prog 3 [linesT l, .v (.int .u64 at_), .v (.int .i64 by_), .v (.int .u64 other)] [] fun t_ S => t_ = .v (.bool true) := by
  have hinj : Inj (xorF by_) l := fun x hx y hy => xorF_inj (hlo x hx) (hlo y hy)
  have hme := moved_err (l := l)
  have hnl2 : l.length ≤ NL := by unfold NL; omega
  refine ACalls.intro Try.func3 rfl Try.ntmps3 (Nat.le_of_ble_eq_true rfl) rfl fun X w0 => ?_
  refine AW.rseq ?_
  refine AWL.y rfl rfl (B rfl) (Yv.assign rfl (E rfl rfl)) ?_
  refine AWL.nil ?_
  refine AW.rseq ?_
  refine AWL.y rfl rfl (B rfl) (Yv.move rfl (E rfl rfl)) ?_
  refine AWL.y rfl rfl (B rfl) (Yv.move rfl (E rfl rfl)) ?_
  refine AWL.callT rfl rfl (B rfl) rfl ce_7 (E rfl rfl) (evsC (E rfl rfl) (evsC (E rfl rfl) evs0)) (Resolve7 l (by unfold NL; omega) at_ f0) ?_
  rintro t26 S26 rfl
  refine AWL.y rfl rfl (B rfl) (Yv.move rfl (E rfl rfl)) ?_
  refine AWL.y rfl rfl (B rfl) (Yv.extract rfl (E rfl rfl) rfl) ?_
  refine AWL.y rfl rfl (B rfl) (Yv.extract rfl (E rfl rfl) rfl) ?_
  refine AWL.y rfl rfl (B rfl) (Yv.assign rfl (E rfl rfl)) ?_
  refine AWL.y rfl rfl (B rfl) (Yv.assign rfl (E rfl rfl)) ?_
  refine AWL.nil ?_
  refine AW.seq ?_
  refine AW.rseq ?_
  refine AWL.y rfl rfl (B rfl) (Yv.move rfl (E rfl rfl)) ?_
  refine AWL.y rfl rfl (B rfl) (Yv.neq rfl (E rfl rfl) (E rfl rfl)) ?_
  refine AWL.nil ?_
  refine AW.cond rfl (fun h0t => ?_) (fun h0f => ?_)
  ·
    try replace h0t := of_decide_eq_true h0t
    refine AW.rseq ?_
    refine AWL.callP rfl rfl (B rfl) rfl ce_8 (E rfl rfl) evs0 (known8) (fun t S h => h) ?_
    refine AWL.y rfl rfl (B rfl) (Yv.assign rfl (E rfl rfl)) ?_
    refine AWL.nil ?_
    refine AW.ret (retI (.tmp rfl .nil) ?_)
    rfl
  try replace h0f := of_decide_eq_false h0f
  have hle : laidE l at_ = 0 := by simpa using h0f
  obtain ⟨hck, hat1, hat2⟩ := laidE_at hle
  rw [resL_ok hle, hle]
  have hil : (insL l at_).length ≤ NL := Nat.le_trans (insL_len l at_) hnl2
  refine AW.skip ?_
  refine AW.rseq ?_
  refine AWL.y rfl rfl (B rfl) (Yv.assign rfl (E rfl rfl)) ?_
  refine AWL.nil ?_
  refine AW.rowNil 32 10 ?_
  refine AW.seq ?_
  refine AW.rseq ?_
  refine AWL.y rfl rfl (B rfl) (Yv.assign rfl (E rfl rfl)) ?_
  refine AWL.nil ?_
  refine AW.block ?_
  refine AW.loop3 (fun (j : Nat) (Ao : Option Addr) (co : Nat) => [(0, true, linesT l), (1, true, .v (.int .u64 at_)), (3, true, .v (.int .u64 other)), (2, true, .v (.int .i64 by_)), (9, true, inssT (insL l at_)), (10, true, .v (.int .i64 0)), (11, true, .v (.slice Ao j co)), (12, true, .v (.int .i64 (j : Int)))]) (fun (j : Nat) (Ao : Option Addr) (co : Nat) => [.row Ao j co 32 10 (((l.take j).map (trF (xorF by_))).flatMap lineCells)]) (fun (j : Nat) (Ao : Option Addr) (co : Nat) => j ≤ l.length) (fun (j : Nat) (Ao : Option Addr) (co : Nat) => l.length - j) 0 none 0 ?_ ?_ ?_ ?_
  · exact Nat.zero_le _
  · exact (Sub.cons rfl rfl (Sub.cons rfl rfl (Sub.cons rfl rfl (Sub.cons rfl rfl (Sub.cons rfl rfl (Sub.cons rfl rfl (Sub.cons rfl rfl (Sub.cons rfl rfl Sub.nil))))))))
  · rfl
  ·
    intro j Ao co hinv
    refine AW.seq ?_
    refine AW.rseq ?_
    refine AWL.y rfl rfl (B rfl) (Yv.move rfl (E rfl rfl)) ?_
    refine AWL.y rfl rfl (B rfl) (Yv.move rfl (E rfl rfl)) ?_
    refine AWL.y rfl rfl (B rfl) (Yv.lenSl rfl so_22 (B rfl) (E rfl rfl) len_lines) ?_
    refine AWL.y rfl rfl (B rfl) (Yv.lss rfl (E rfl rfl) (E rfl rfl)) ?_
    refine AWL.nil ?_
    refine AW.cond rfl (fun h1t => ?_) (fun h1f => ?_)
    ·
      try replace h1t := of_decide_eq_true h1t
      refine AW.skip ?_
      refine AW.seq ?_
      refine AW.block ?_
      refine AW.rseq ?_
      refine AWL.y rfl rfl (B rfl) (Yv.move rfl (E rfl rfl)) ?_
      refine AWL.y rfl rfl (B rfl) (Yv.move rfl (E rfl rfl)) ?_
      refine AWL.y rfl rfl (B rfl) (Yv.indexSl rfl ss_22 (B rfl) (E rfl rfl) (E rfl rfl) (fun hg => ⟨rfl, (by first | omega | (simp only [len_lines, len_inss, len_zu, len_ints, len_u8s]; omega))⟩)) ?_
      refine AWL.y rfl rfl (B rfl) (Yv.loadRpA rfl ag_32 (E rfl rfl) (fun hg => line_get (by omega))) ?_
      refine AWL.allocOp rfl rfl (B rfl) rfl zc_32 (fun b13 => ?_)
      refine AWL.storeBox (i := 1) rfl rfl rfl ag_32 rfl (E rfl rfl) (E rfl rfl) rfl rfl (Nat.le_of_ble_eq_true rfl) ?_
      refine AWL.nil ?_
      refine AW.rseq ?_
      refine AWL.y rfl rfl (B rfl) (Yv.fieldBox rfl fo_32_2 (E rfl rfl)) ?_
      refine AWL.y rfl rfl (B rfl) (Yv.loadBox rfl ag_3 (i := 1) rfl (E rfl rfl) rfl) ?_
      refine AWL.y rfl rfl (B rfl) (Yv.move rfl (E rfl rfl)) ?_
      refine AWL.y rfl rfl (B rfl) (Yv.bits rfl rfl (E rfl rfl) (E rfl rfl)) ?_
      refine AWL.y rfl rfl (B rfl) (Yv.fieldBox rfl fo_32_2 (E rfl rfl)) ?_
      refine AWL.storeBox (i := 1) rfl rfl rfl ag_3 rfl (E rfl rfl) (E rfl rfl) rfl rfl (Nat.le_of_ble_eq_true rfl) ?_
      refine AWL.nil ?_
      refine AW.region ?_
      refine AWL.y rfl rfl (B rfl) (Yv.move rfl (E rfl rfl)) ?_
      refine AWL.y rfl rfl (B rfl) (Yv.loadBoxA rfl ag_32 (i := 1) rfl (E rfl rfl) rfl rfl) ?_
      refine AWL.buildSliceE rfl rfl (B rfl) rfl el_22 (B rfl) rfl (evsC (E rfl rfl) evs0) (Nat.le_of_ble_eq_true rfl) rfl rfl ?_
      refine AWL.appendRow (i := 0) rfl rfl (B rfl) rfl el_22 (B rfl) rfl (E rfl rfl) (SrcT.sl so_22 (B rfl) (E rfl rfl) rfl) (by unfold maxLen; omega) (by omega) (fun A50 c50 => ?_)
      refine AWL.y rfl rfl (B rfl) (Yv.assign rfl (E rfl rfl)) ?_
      refine AWL.nil ?_
      refine AW.dropAt 1 ?_
      refine AW.region ?_
      refine AWL.y rfl rfl (B rfl) (Yv.move rfl (E rfl rfl)) ?_
      refine AWL.y rfl rfl (B rfl) (Yv.addN_i64 rfl (E rfl rfl) (E rfl rfl) (fun hg => by omega)) ?_
      refine AWL.y rfl rfl (B rfl) (Yv.assign rfl (E rfl rfl)) ?_
      refine AWL.nil ?_
      refine ⟨j + 1, A50, c50, by omega, by omega, Sub.cons rfl rfl (Sub.cons rfl rfl (Sub.cons rfl rfl (Sub.cons rfl rfl (Sub.cons rfl rfl (Sub.cons rfl rfl (Sub.cons rfl rfl (Sub.cons rfl (by simp) Sub.nil))))))), ?_⟩
      rw [tr_flat (by omega)]
      rfl
    try replace h1f := of_decide_eq_false h1f
    refine AW.exit ?_
    obtain rfl : j = l.length := by omega
    rw [List.take_length]
    refine AW.freeze 0 11 rfl (B rfl) rfl ?_
    refine AW.rseq ?_
    refine AWL.y rfl rfl (B rfl) (Yv.move rfl (E rfl rfl)) ?_
    refine AWL.y rfl rfl (B rfl) (Yv.move rfl (E rfl rfl)) ?_
    refine AWL.callT rfl rfl (B rfl) rfl ce_7 (E rfl rfl) (evsC (E rfl rfl) (evsC (E rfl rfl) evs0)) (Resolve7 (l.map (trF (xorF by_))) (by rw [List.length_map]; unfold NL; omega) at_ f0) ?_
    rintro t54 S54 rfl
    rw [resL_ok (by rw [tr_laid hinj]; exact hle), tr_ins hinj, tr_laid hinj, hle]
    refine AWL.y rfl rfl (B rfl) (Yv.move rfl (E rfl rfl)) ?_
    refine AWL.y rfl rfl (B rfl) (Yv.extract rfl (E rfl rfl) rfl) ?_
    refine AWL.y rfl rfl (B rfl) (Yv.extract rfl (E rfl rfl) rfl) ?_
    refine AWL.y rfl rfl (B rfl) (Yv.assign rfl (E rfl rfl)) ?_
    refine AWL.y rfl rfl (B rfl) (Yv.assign rfl (E rfl rfl)) ?_
    refine AWL.nil ?_
    refine AW.rseq ?_
    refine AWL.y rfl rfl (B rfl) (Yv.move rfl (E rfl rfl)) ?_
    refine AWL.y rfl rfl (B rfl) (Yv.move rfl (E rfl rfl)) ?_
    refine AWL.callT rfl rfl (B rfl) rfl ce_7 (E rfl rfl) (evsC (E rfl rfl) (evsC (E rfl rfl) evs0)) (Resolve7 l (by unfold NL; omega) other f1) ?_
    rintro t60 S60 rfl
    refine AWL.y rfl rfl (B rfl) (Yv.move rfl (E rfl rfl)) ?_
    refine AWL.y rfl rfl (B rfl) (Yv.extract rfl (E rfl rfl) rfl) ?_
    refine AWL.y rfl rfl (B rfl) (Yv.extract rfl (E rfl rfl) rfl) ?_
    refine AWL.y rfl rfl (B rfl) (Yv.assign rfl (E rfl rfl)) ?_
    refine AWL.y rfl rfl (B rfl) (Yv.assign rfl (E rfl rfl)) ?_
    refine AWL.nil ?_
    refine AW.rseq ?_
    refine AWL.y rfl rfl (B rfl) (Yv.assign rfl (E rfl rfl)) ?_
    refine AWL.nil ?_
    refine AW.seq ?_
    refine AW.rseq ?_
    refine AWL.y rfl rfl (B rfl) (Yv.assign rfl (E rfl rfl)) ?_
    refine AWL.nil ?_
    refine AW.block ?_
    refine AW.loop (fun (j : Nat) => [(0, true, linesT l), (1, true, .v (.int .u64 at_)), (3, true, .v (.int .u64 other)), (9, true, inssT (insL l at_)), (10, true, .v (.int .i64 0)), (14, true, inssT (insL l at_)), (15, true, .v (.int .i64 0)), (16, true, inssT (resL l other)), (17, true, .v (.int .i64 (laidE l other))), (18, true, .v (.int .i64 ((cntK l j) : Int))), (19, true, .v (.int .i64 (j : Int)))]) (fun (j : Nat) => []) (fun (j : Nat) => j ≤ l.length) (fun (j : Nat) => l.length - j) 0 ?_ ?_ ?_ ?_
    · exact Nat.zero_le _
    · exact (Sub.cons rfl rfl (Sub.cons rfl rfl (Sub.cons rfl rfl (Sub.cons rfl rfl (Sub.cons rfl rfl (Sub.cons rfl rfl (Sub.cons rfl rfl (Sub.cons rfl rfl (Sub.cons rfl rfl (Sub.cons rfl rfl (Sub.cons rfl rfl Sub.nil)))))))))))
    · rfl
    ·
      intro j hinv
      have hkl := cntK_le l j
      refine AW.seq ?_
      refine AW.rseq ?_
      refine AWL.y rfl rfl (B rfl) (Yv.move rfl (E rfl rfl)) ?_
      refine AWL.y rfl rfl (B rfl) (Yv.move rfl (E rfl rfl)) ?_
      refine AWL.y rfl rfl (B rfl) (Yv.lenSl rfl so_22 (B rfl) (E rfl rfl) len_lines) ?_
      refine AWL.y rfl rfl (B rfl) (Yv.lss rfl (E rfl rfl) (E rfl rfl)) ?_
      refine AWL.nil ?_
      refine AW.cond rfl (fun h2t => ?_) (fun h2f => ?_)
      ·
        try replace h2t := of_decide_eq_true h2t
        refine AW.skip ?_
        refine AW.seq ?_
        refine AW.block ?_
        refine AW.rseq ?_
        refine AWL.y rfl rfl (B rfl) (Yv.move rfl (E rfl rfl)) ?_
        refine AWL.y rfl rfl (B rfl) (Yv.move rfl (E rfl rfl)) ?_
        refine AWL.y rfl rfl (B rfl) (Yv.indexSl rfl ss_22 (B rfl) (E rfl rfl) (E rfl rfl) (fun hg => ⟨rfl, (by first | omega | (simp only [len_lines, len_inss, len_zu, len_ints, len_u8s]; omega))⟩)) ?_
        refine AWL.y rfl rfl (B rfl) (Yv.fieldRp rfl fo_32_0 (E rfl rfl)) ?_
        refine AWL.y rfl rfl (B rfl) (Yv.loadRp rfl ag_3 (E rfl rfl) (fun hg => line_at0 (by omega))) ?_
        refine AWL.y rfl rfl (B rfl) (Yv.neq rfl (E rfl rfl) (E rfl rfl)) ?_
        refine AWL.nil ?_
        refine AW.cond rfl (fun h3t => ?_) (fun h3f => ?_)
        ·
          try replace h3t := of_decide_eq_true h3t
          refine AW.region ?_
          refine AWL.y rfl rfl (B rfl) (Yv.move rfl (E rfl rfl)) ?_
          refine AWL.y rfl rfl (B rfl) (Yv.addN_i64 rfl (E rfl rfl) (E rfl rfl) (fun hg => by omega)) ?_
          refine AWL.y rfl rfl (B rfl) (Yv.assign rfl (E rfl rfl)) ?_
          refine AWL.nil ?_
          refine AW.region ?_
          refine AWL.y rfl rfl (B rfl) (Yv.move rfl (E rfl rfl)) ?_
          refine AWL.y rfl rfl (B rfl) (Yv.addN_i64 rfl (E rfl rfl) (E rfl rfl) (fun hg => by omega)) ?_
          refine AWL.y rfl rfl (B rfl) (Yv.assign rfl (E rfl rfl)) ?_
          refine AWL.nil ?_
          have hks := cntK_yes (l := l) (j := j) (by omega) (by simpa using h3t)
          refine ⟨j + 1, by omega, by omega, Sub.cons rfl rfl (Sub.cons rfl rfl (Sub.cons rfl rfl (Sub.cons rfl rfl (Sub.cons rfl rfl (Sub.cons rfl rfl (Sub.cons rfl rfl (Sub.cons rfl rfl (Sub.cons rfl rfl (Sub.cons rfl (by rw [hks]; rfl) (Sub.cons rfl (by simp) Sub.nil)))))))))), rfl⟩
        try replace h3f := of_decide_eq_false h3f
        refine AW.skip ?_
        refine AW.region ?_
        refine AWL.y rfl rfl (B rfl) (Yv.move rfl (E rfl rfl)) ?_
        refine AWL.y rfl rfl (B rfl) (Yv.addN_i64 rfl (E rfl rfl) (E rfl rfl) (fun hg => by omega)) ?_
        refine AWL.y rfl rfl (B rfl) (Yv.assign rfl (E rfl rfl)) ?_
        refine AWL.nil ?_
        have hks := cntK_no (l := l) (j := j) (by omega) (by simpa using h3f)
        refine ⟨j + 1, by omega, by omega, Sub.cons rfl rfl (Sub.cons rfl rfl (Sub.cons rfl rfl (Sub.cons rfl rfl (Sub.cons rfl rfl (Sub.cons rfl rfl (Sub.cons rfl rfl (Sub.cons rfl rfl (Sub.cons rfl rfl (Sub.cons rfl (by rw [hks]) (Sub.cons rfl (by simp) Sub.nil)))))))))), rfl⟩
      try replace h2f := of_decide_eq_false h2f
      refine AW.exit ?_
      refine AW.seq ?_
      obtain rfl : j = l.length := by omega
      refine AW.rseq ?_
      refine AWL.y rfl rfl (B rfl) (Yv.move rfl (E rfl rfl)) ?_
      refine AWL.y rfl rfl (B rfl) (Yv.lenSl rfl so_24 (B rfl) (E rfl rfl) len_inss) ?_
      refine AWL.y rfl rfl (B rfl) (Yv.move rfl (E rfl rfl)) ?_
      refine AWL.y rfl rfl (B rfl) (Yv.neq rfl (E rfl rfl) (E rfl rfl)) ?_
      refine AWL.nil ?_
      refine AW.cond rfl (fun h4t => ?_) (fun h4f => ?_)
      ·
        try replace h4t := of_decide_eq_true h4t
        refine AW.rseq ?_
        refine AWL.y rfl rfl (B rfl) (Yv.assign rfl (E rfl rfl)) ?_
        refine AWL.nil ?_
        refine AW.ret (retI (.tmp rfl .nil) ?_)
        exact absurd (outN_cnt hck (tgF l) (sizesF l) at_ l.length (Nat.le_refl _)) (by simpa [insL, Int.ofNat_inj] using h4t)
      try replace h4f := of_decide_eq_false h4f
      refine AW.skip ?_
      refine AW.seq ?_
      refine AW.rseq ?_
      refine AWL.y rfl rfl (B rfl) (Yv.move rfl (E rfl rfl)) ?_
      refine AWL.y rfl rfl (B rfl) (Yv.neq rfl (E rfl rfl) (E rfl rfl)) ?_
      refine AWL.y rfl rfl (B rfl) (Yv.move rfl (E rfl rfl)) ?_
      refine AWL.ygF rfl rfl rfl rfl (B rfl) (Yv.move rfl (E rfl rfl)) ?_
      refine AWL.ygF rfl rfl rfl rfl (B rfl) (Yv.move rfl (E rfl rfl)) ?_
      refine AWL.callPgF rfl rfl rfl rfl (B rfl) rfl ce_9 (E rfl rfl) (evsC (Eg rfl rfl id) (evsC (Eg rfl rfl id) evs0)) (fun hg => same9 (insL l at_) (insL l at_) hil hil) (fun t S h => h) ?_
      refine AWL.ygF rfl rfl rfl rfl (B rfl) (Yv.not rfl (Eg rfl rfl id)) ?_
      refine AWL.y rfl rfl (B rfl) (Yv.pickOr (t := .const (.bool true)) rfl (E rfl rfl) (Eg rfl rfl id)) ?_
      refine AWL.y rfl rfl (B rfl) (Yv.move rfl (E rfl rfl)) ?_
      refine AWL.ygF rfl rfl rfl rfl (B rfl) (Yv.move rfl (E rfl rfl)) ?_
      refine AWL.ygF rfl rfl rfl rfl (B rfl) (Yv.neq rfl (Eg rfl rfl id) (E rfl rfl)) ?_
      refine AWL.ygF rfl rfl rfl rfl (B rfl) (Yv.move rfl (Eg rfl rfl id)) ?_
      refine AWL.ygT rfl rfl rfl rfl (B rfl) (Yv.move rfl (E rfl rfl)) ?_
      refine AWL.ygT rfl rfl rfl rfl (B rfl) (Yv.neq rfl (Eg rfl rfl id) (E rfl rfl)) ?_
      refine AWL.ygF rfl rfl rfl rfl (B rfl) (Yv.pickAnd rfl (Eg rfl rfl id) (Eg rfl rfl id)) ?_
      refine AWL.y rfl rfl (B rfl) (Yv.pickOr (t := .const (.bool true)) rfl (E rfl rfl) (Eg rfl rfl id)) ?_
      refine AWL.y rfl rfl (B rfl) (Yv.move rfl (E rfl rfl)) ?_
      refine AWL.ygF rfl rfl rfl rfl (B rfl) (Yv.move rfl (E rfl rfl)) ?_
      refine AWL.ygF rfl rfl rfl rfl (B rfl) (Yv.eql rfl (Eg rfl rfl id) (E rfl rfl)) ?_
      refine AWL.ygF rfl rfl rfl rfl (B rfl) (Yv.move rfl (Eg rfl rfl id)) ?_
      refine AWL.ygT rfl rfl rfl rfl (B rfl) (Yv.move rfl (E rfl rfl)) ?_
      refine AWL.ygT rfl rfl rfl rfl (B rfl) (Yv.lenSl rfl so_24 (B rfl) (Eg rfl rfl id) len_inss) ?_
      refine AWL.ygT rfl rfl rfl rfl (B rfl) (Yv.move rfl (E rfl rfl)) ?_
      refine AWL.ygT rfl rfl rfl rfl (B rfl) (Yv.lenSl rfl so_24 (B rfl) (Eg rfl rfl id) len_inss) ?_
      refine AWL.ygT rfl rfl rfl rfl (B rfl) (Yv.neq rfl (Eg rfl rfl id) (Eg rfl rfl id)) ?_
      refine AWL.ygF rfl rfl rfl rfl (B rfl) (Yv.pickAnd rfl (Eg rfl rfl id) (Eg rfl rfl id)) ?_
      refine AWL.y rfl rfl (B rfl) (Yv.pickOr (t := .const (.bool true)) rfl (E rfl rfl) (Eg rfl rfl id)) ?_
      refine AWL.nil ?_
      refine AW.cond rfl (fun h5t => ?_) (fun h5f => ?_)
      ·
        try replace h5t := of_decide_eq_true h5t
        refine AW.rseq ?_
        refine AWL.y rfl rfl (B rfl) (Yv.assign rfl (E rfl rfl)) ?_
        refine AWL.nil ?_
        refine AW.ret (retI (.tmp rfl .nil) ?_)
        exfalso
        have e1 := outN_cnt hck (tgF l) (sizesF l) at_ l.length (Nat.le_refl _)
        have e2 := outN_cnt hck (tgF l) (sizesF l) other l.length (Nat.le_refl _)
        rcases hme hck other with hq | hq
        · rw [resL_ok hq, show (insL l other).length = (insL l at_).length from e2.trans e1.symm, hq] at h5t
          simp at h5t
        · rw [hq] at h5t
          simp at h5t
      try replace h5f := of_decide_eq_false h5f
      refine AW.skip ?_
      refine AW.rseq ?_
      refine AWL.y rfl rfl (B rfl) (Yv.assign rfl (E rfl rfl)) ?_
      refine AWL.nil ?_
      refine AW.seq ?_
      refine AW.rseq ?_
      refine AWL.y rfl rfl (B rfl) (Yv.assign rfl (E rfl rfl)) ?_
      refine AWL.nil ?_
      refine AW.block ?_
      refine AW.loop (fun (j : Nat) => [(0, true, linesT l), (1, true, .v (.int .u64 at_)), (3, true, .v (.int .u64 other)), (9, true, inssT (insL l at_)), (10, true, .v (.int .i64 0)), (14, true, inssT (insL l at_)), (15, true, .v (.int .i64 0)), (16, true, inssT (resL l other)), (17, true, .v (.int .i64 (laidE l other))), (20, true, .v (.int .i64 ((cntK l j) : Int))), (21, true, .v (.int .i64 (j : Int)))]) (fun (j : Nat) => []) (fun (j : Nat) => j ≤ l.length) (fun (j : Nat) => l.length - j) 0 ?_ ?_ ?_ ?_
      · exact Nat.zero_le _
      · exact (Sub.cons rfl rfl (Sub.cons rfl rfl (Sub.cons rfl rfl (Sub.cons rfl rfl (Sub.cons rfl rfl (Sub.cons rfl rfl (Sub.cons rfl rfl (Sub.cons rfl rfl (Sub.cons rfl rfl (Sub.cons rfl rfl (Sub.cons rfl rfl Sub.nil)))))))))))
      · rfl
      ·
        intro j hinv
        have hkl := cntK_le l j
        refine AW.seq ?_
        refine AW.rseq ?_
        refine AWL.y rfl rfl (B rfl) (Yv.move rfl (E rfl rfl)) ?_
        refine AWL.y rfl rfl (B rfl) (Yv.move rfl (E rfl rfl)) ?_
        refine AWL.y rfl rfl (B rfl) (Yv.lenSl rfl so_22 (B rfl) (E rfl rfl) len_lines) ?_
        refine AWL.y rfl rfl (B rfl) (Yv.lss rfl (E rfl rfl) (E rfl rfl)) ?_
        refine AWL.y rfl rfl (B rfl) (Yv.move rfl (E rfl rfl)) ?_
        refine AWL.ygT rfl rfl rfl rfl (B rfl) (Yv.move rfl (E rfl rfl)) ?_
        refine AWL.ygT rfl rfl rfl rfl (B rfl) (Yv.eql rfl (Eg rfl rfl id) (E rfl rfl)) ?_
        refine AWL.y rfl rfl (B rfl) (Yv.pickAnd rfl (E rfl rfl) (Eg rfl rfl id)) ?_
        refine AWL.nil ?_
        refine AW.cond rfl (fun h6t => ?_) (fun h6f => ?_)
        ·
          try replace h6t := of_decide_eq_true h6t
          simp only [Bool.and_eq_true, decide_eq_true_eq] at h6t
          obtain ⟨hj6, hg0⟩ := h6t
          obtain ⟨_, hoa, _⟩ := laidE_at hg0
          rw [resL_ok hg0]
          refine AW.skip ?_
          refine AW.seq ?_
          refine AW.block ?_
          refine AW.seq ?_
          refine AW.rseq ?_
          refine AWL.y rfl rfl (B rfl) (Yv.move rfl (E rfl rfl)) ?_
          refine AWL.y rfl rfl (B rfl) (Yv.move rfl (E rfl rfl)) ?_
          refine AWL.y rfl rfl (B rfl) (Yv.indexSl rfl ss_22 (B rfl) (E rfl rfl) (E rfl rfl) (fun hg => ⟨rfl, (by first | omega | (simp only [len_lines, len_inss, len_zu, len_ints, len_u8s]; omega))⟩)) ?_
          refine AWL.y rfl rfl (B rfl) (Yv.fieldRp rfl fo_32_0 (E rfl rfl)) ?_
          refine AWL.y rfl rfl (B rfl) (Yv.loadRp rfl ag_3 (E rfl rfl) (fun hg => line_at0 (by omega))) ?_
          refine AWL.y rfl rfl (B rfl) (Yv.eql rfl (E rfl rfl) (E rfl rfl)) ?_
          refine AWL.nil ?_
          refine AW.cond rfl (fun h7t => ?_) (fun h7f => ?_)
          ·
            try replace h7t := of_decide_eq_true h7t
            refine AW.exit ?_
            refine AW.region ?_
            refine AWL.y rfl rfl (B rfl) (Yv.move rfl (E rfl rfl)) ?_
            refine AWL.y rfl rfl (B rfl) (Yv.addN_i64 rfl (E rfl rfl) (E rfl rfl) (fun hg => by omega)) ?_
            refine AWL.y rfl rfl (B rfl) (Yv.assign rfl (E rfl rfl)) ?_
            refine AWL.nil ?_
            have hks := cntK_no (l := l) (j := j) (by omega) h7t
            refine ⟨j + 1, by omega, by omega, Sub.cons rfl rfl (Sub.cons rfl rfl (Sub.cons rfl rfl (Sub.cons rfl rfl (Sub.cons rfl rfl (Sub.cons rfl rfl (Sub.cons rfl rfl (Sub.cons rfl rfl (Sub.cons rfl rfl (Sub.cons rfl (by rw [hks]) (Sub.cons rfl (by simp) Sub.nil)))))))))), rfl⟩
          try replace h7f := of_decide_eq_false h7f
          obtain ⟨hma, hmb, hmc, hm6⟩ := ins_moved hck at_ other f0 hat1 (by omega) (show j < l.length by omega) h7f
          refine AW.skip ?_
          refine AW.rseq ?_
          refine AWL.y rfl rfl (B rfl) (Yv.move rfl (E rfl rfl)) ?_
          refine AWL.y rfl rfl (B rfl) (Yv.move rfl (E rfl rfl)) ?_
          refine AWL.y rfl rfl (B rfl) (Yv.indexSl (j := (cntK l j)) rfl ss_24 (B rfl) (E rfl rfl) (E rfl rfl) (fun hg => ⟨rfl, by simp only [len_inss]; omega⟩)) ?_
          refine AWL.y rfl rfl (B rfl) (Yv.loadRpA rfl ag_30 (E rfl rfl) (fun hg => ins_get (by omega))) ?_
          refine AWL.allocOp rfl rfl (B rfl) rfl zc_30 (fun b22 => ?_)
          refine AWL.storeBox (i := 0) rfl rfl rfl ag_30 rfl (E rfl rfl) (E rfl rfl) rfl rfl (Nat.le_of_ble_eq_true rfl) ?_
          refine AWL.nil ?_
          refine AW.mid (α := Unit) (fun _ => [(0, true, linesT l), (1, true, .v (.int .u64 at_)), (3, true, .v (.int .u64 other)), (9, true, inssT (insL l at_)), (10, true, .v (.int .i64 0)), (14, true, inssT (insL l at_)), (15, true, .v (.int .i64 0)), (16, true, inssT (insL l other)), (17, true, .v (.int .i64 (laidE l other))), (20, true, .v (.int .i64 ((cntK l j) : Int))), (21, true, .v (.int .i64 (j : Int))), (22, true, .v (.pointer (some ⟨b22, 0, none⟩)))]) (fun _ => [.box b22 30 (insCells (mvI at_ other (l.getD j default).kind ((insL l at_).getD (cntK l j) default)))]) (fun _ => True) ?_ ?_
          ·
            refine AW.rseq ?_
            refine AWL.y rfl rfl (B rfl) (Yv.move rfl (E rfl rfl)) ?_
            refine AWL.y rfl rfl (B rfl) (Yv.move rfl (E rfl rfl)) ?_
            refine AWL.y rfl rfl (B rfl) (Yv.indexSl rfl ss_22 (B rfl) (E rfl rfl) (E rfl rfl) (fun hg => ⟨rfl, (by first | omega | (simp only [len_lines, len_inss, len_zu, len_ints, len_u8s]; omega))⟩)) ?_
            refine AWL.y rfl rfl (B rfl) (Yv.fieldRp rfl fo_32_0 (E rfl rfl)) ?_
            refine AWL.y rfl rfl (B rfl) (Yv.loadRp rfl ag_3 (E rfl rfl) (fun hg => line_at0 (by omega))) ?_
            refine AWL.y rfl rfl (B rfl) (Yv.eql rfl (E rfl rfl) (E rfl rfl)) ?_
            refine AWL.nil ?_
            refine AW.cond rfl (fun h8t => ?_) (fun h8f => ?_)
            ·
              try replace h8t := of_decide_eq_true h8t
              have hm7 := hm6 h8t
              refine AW.region ?_
              refine AWL.y rfl rfl (B rfl) (Yv.fieldBox rfl fo_30_5 (E rfl rfl)) ?_
              refine AWL.y rfl rfl (B rfl) (Yv.loadBox rfl ag_2 (i := 0) rfl (E rfl rfl) rfl) ?_
              refine AWL.y rfl rfl (B rfl) (Yv.move rfl (E rfl rfl)) ?_
              refine AWL.y rfl rfl (B rfl) (Yv.convN_i64 rfl Try.underlying23 kd_2 (E rfl rfl) (fun hg => by omega)) ?_
              refine AWL.y rfl rfl (B rfl) (Yv.subN_i64 rfl (E rfl rfl) (E rfl rfl) (fun hg => by omega)) ?_
              refine AWL.y rfl rfl (B rfl) (Yv.move rfl (E rfl rfl)) ?_
              refine AWL.y rfl rfl (B rfl) (Yv.convN_i64 rfl Try.underlying23 kd_2 (E rfl rfl) (fun hg => by omega)) ?_
              refine AWL.y rfl rfl (B rfl) (Yv.addN_i64 rfl (E rfl rfl) (E rfl rfl) (fun hg => by omega)) ?_
              refine AWL.y rfl rfl (B rfl) (Yv.fieldBox rfl fo_30_5 (E rfl rfl)) ?_
              refine AWL.storeBox (i := 0) rfl rfl rfl ag_2 rfl (E rfl rfl) (E rfl rfl) rfl rfl (Nat.le_of_ble_eq_true rfl) ?_
              refine AWL.nil ?_
              refine ⟨(), trivial, (Sub.cons rfl rfl (Sub.cons rfl rfl (Sub.cons rfl rfl (Sub.cons rfl rfl (Sub.cons rfl rfl (Sub.cons rfl rfl (Sub.cons rfl rfl (Sub.cons rfl rfl (Sub.cons rfl rfl (Sub.cons rfl rfl (Sub.cons rfl rfl (Sub.cons rfl rfl Sub.nil)))))))))))), ?_⟩
              rw [mvI, if_pos h8t]
              rfl
            try replace h8f := of_decide_eq_false h8f
            refine AW.skip ?_
            refine ⟨(), trivial, (Sub.cons rfl rfl (Sub.cons rfl rfl (Sub.cons rfl rfl (Sub.cons rfl rfl (Sub.cons rfl rfl (Sub.cons rfl rfl (Sub.cons rfl rfl (Sub.cons rfl rfl (Sub.cons rfl rfl (Sub.cons rfl rfl (Sub.cons rfl rfl (Sub.cons rfl rfl Sub.nil)))))))))))), ?_⟩
            rw [mvI, if_neg h8f]
            rfl
          ·
            rintro _ hmid
            refine AW.seq ?_
            refine AW.rseqQ rfl (by kernel_rfl) ?_
            refine AWQ.y rfl rfl (B rfl) (Yv.move rfl (E rfl rfl)) ?_
            refine AWQ.y rfl rfl (B rfl) (Yv.move rfl (E rfl rfl)) ?_
            refine AWQ.y rfl rfl (B rfl) (Yv.indexSl (j := (cntK l j)) rfl ss_24 (B rfl) (E rfl rfl) (E rfl rfl) (fun hg => ⟨rfl, by simp only [len_inss]; omega⟩)) ?_
            refine AWQ.y rfl rfl (B rfl) (Yv.loadRpA rfl ag_30 (E rfl rfl) (fun hg => ins_get (by omega))) ?_
            refine AWQ.y rfl rfl (B rfl) (Yv.loadBoxA rfl ag_30 (i := 0) rfl (E rfl rfl) rfl rfl) ?_
            refine AWQ.y rfl rfl (B rfl) (Yv.neqA (us := insVals ((insL l other).getD (cntK l j) default)) (vs := insVals (mvI at_ other (l.getD j default).kind ((insL l at_).getD (cntK l j) default))) rfl fl_30 (E rfl rfl) (E rfl rfl) rfl rfl (ins_eq ((insL l other).getD (cntK l j) default) (mvI at_ other (l.getD j default).kind ((insL l at_).getD (cntK l j) default)))) ?_
            refine AWQ.nil ?_
            refine AW.cond rfl (fun h9t => ?_) (fun h9f => ?_)
            ·
              try replace h9t := of_decide_eq_true h9t
              refine AW.rseq ?_
              refine AWL.y rfl rfl (B rfl) (Yv.assign rfl (E rfl rfl)) ?_
              refine AWL.nil ?_
              refine AW.ret (retI (.tmp rfl .nil) ?_)
              exact absurd hmc (by simpa using h9t)
            try replace h9f := of_decide_eq_false h9f
            refine AW.skip ?_
            refine AW.dropAt 0 ?_
            refine AW.region ?_
            refine AWL.y rfl rfl (B rfl) (Yv.move rfl (E rfl rfl)) ?_
            refine AWL.y rfl rfl (B rfl) (Yv.addN_i64 rfl (E rfl rfl) (E rfl rfl) (fun hg => by omega)) ?_
            refine AWL.y rfl rfl (B rfl) (Yv.assign rfl (E rfl rfl)) ?_
            refine AWL.nil ?_
            refine AW.region ?_
            refine AWL.y rfl rfl (B rfl) (Yv.move rfl (E rfl rfl)) ?_
            refine AWL.y rfl rfl (B rfl) (Yv.addN_i64 rfl (E rfl rfl) (E rfl rfl) (fun hg => by omega)) ?_
            refine AWL.y rfl rfl (B rfl) (Yv.assign rfl (E rfl rfl)) ?_
            refine AWL.nil ?_
            have hks := cntK_yes (l := l) (j := j) (by omega) h7f
            refine ⟨j + 1, by omega, by omega, Sub.cons rfl rfl (Sub.cons rfl rfl (Sub.cons rfl rfl (Sub.cons rfl rfl (Sub.cons rfl rfl (Sub.cons rfl rfl (Sub.cons rfl rfl (Sub.cons rfl rfl (Sub.cons rfl rfl (Sub.cons rfl (by rw [hks]; rfl) (Sub.cons rfl (by simp) Sub.nil)))))))))), rfl⟩
        try replace h6f := of_decide_eq_false h6f
        refine AW.exit ?_
        refine AW.rseq ?_
        refine AWL.callP rfl rfl (B rfl) rfl ce_8 (E rfl rfl) evs0 (known8) (fun t S h => h) ?_
        refine AWL.y rfl rfl (B rfl) (Yv.assign rfl (E rfl rfl)) ?_
        refine AWL.nil ?_
        refine AW.ret (retI (.tmp rfl .nil) ?_)
        rfl

end Go.Proofs.Ytabkedlmpaoloaa
