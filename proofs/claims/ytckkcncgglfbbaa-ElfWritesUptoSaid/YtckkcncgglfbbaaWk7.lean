/-
  CONTRACTS of the laws Cuts and Back of the elf seat; walked by program.
-/
import Derived.Test.YtckkcncgglfbbaaWk6
import Derived.Test.YtckkcncgglfbbaaBack
namespace Go.Proofs.Ytckkcncgglfbbaa
open Go Go.RowKit
set_option linter.unusedVariables false

set_option maxHeartbeats 400000 in
theorem ElfCuts6 (i : Img) (a : Int) (hi : ImgOk i) (ha1 : -9223372036854775808 ≤ a) (ha2 : a ≤ 9223372036854775807) (hw : (WriteF i).length ≤ 1099511627776) :
    ACalls Try.prog 6 [imgT i, .v (.int .i64 a)] [] (fun t S => t = .v (.bool true)) := by
  obtain ⟨hi1, hi2, hi3, hi4⟩ := hi
  have hi := (⟨hi1, hi2, hi3, hi4⟩ : ImgOk i)
  refine ACalls.intro Try.func6 rfl Try.ntmps6 (Nat.le_of_ble_eq_true rfl) rfl fun X w0 => ?_
  refine AW.rseq ?_
  refine AWL.boxOp rfl rfl (B rfl) rfl (E rfl rfl) rfl (fun b2 => ?_)
  refine AWL.y rfl rfl (B rfl) (Yv.assign rfl (E rfl rfl)) ?_
  refine AWL.nil ?_
  refine AW.rseq ?_
  refine AWL.y rfl rfl (B rfl) (Yv.loadBoxA rfl ag_25 (i := 0) rfl (E rfl rfl) rfl rfl) ?_
  refine AWL.call rfl rfl (B rfl) rfl ce_10 (E rfl rfl) (evsC (E rfl rfl) evs0) (S1 := []) (S2 := _) rfl (Write10 i hi) ?_
  rintro t12 S12 ⟨A12, c12, rfl, rfl⟩
  refine AWL.y rfl rfl (B rfl) (Yv.move rfl (E rfl rfl)) ?_
  refine AWL.y rfl rfl (B rfl) (Yv.extract rfl (E rfl rfl) rfl) ?_
  refine AWL.y rfl rfl (B rfl) (Yv.extract rfl (E rfl rfl) rfl) ?_
  refine AWL.y rfl rfl (B rfl) (Yv.assign rfl (E rfl rfl)) ?_
  refine AWL.y rfl rfl (B rfl) (Yv.assign rfl (E rfl rfl)) ?_
  refine AWL.nil ?_
  refine AW.freeze 0 5 rfl (B rfl) rfl ?_
  refine AW.seq ?_
  refine AW.rseq ?_
  refine AWL.y rfl rfl (B rfl) (Yv.move rfl (E rfl rfl)) ?_
  refine AWL.y rfl rfl (B rfl) (Yv.neq rfl (E rfl rfl) (E rfl rfl)) ?_
  refine AWL.nil ?_
  refine AW.cond rfl (fun h0t => ?_) (fun h0f => ?_)
  ·
    try replace h0t := of_decide_eq_true h0t
    simp only [Bool.or_eq_true, Bool.and_eq_true, Bool.or_eq_false_iff, Bool.and_eq_false_iff, Bool.not_eq_true', Bool.not_eq_false', decide_eq_true_eq, decide_eq_false_iff_not, Decidable.not_not] at h0t
    have hc := (errOf_ne _).1 h0t
    refine AW.rseq ?_
    refine AWL.callP rfl rfl (B rfl) rfl ce_14 (E rfl rfl) evs0 (known14) (fun t S h => h) ?_
    refine AWL.y rfl rfl (B rfl) (Yv.assign rfl (E rfl rfl)) ?_
    refine AWL.nil ?_
    refine AW.ret (retI (.tmp rfl .nil) ?_)
    rfl
  ·
    try replace h0f := of_decide_eq_false h0f
    simp only [Bool.or_eq_true, Bool.and_eq_true, Bool.or_eq_false_iff, Bool.and_eq_false_iff, Bool.not_eq_true', Bool.not_eq_false', decide_eq_true_eq, decide_eq_false_iff_not, Decidable.not_not] at h0f
    have hc : checkedB i true = true := by
      rw [← Bool.not_eq_false]; intro h; exact (errOf_ne _).2 h h0f
    have hW := WriteF_is hc
    have hwl := writeF_long i
    refine AW.skip ?_
    refine AW.seq ?_
    refine AW.rseq ?_
    refine AWL.y rfl rfl (B rfl) (Yv.move rfl (E rfl rfl)) ?_
    refine AWL.y rfl rfl (B rfl) (Yv.lenSl rfl so_27 (B rfl) (E rfl rfl) len_u8s) ?_
    refine AWL.y rfl rfl (B rfl) (Yv.eql rfl (E rfl rfl) (E rfl rfl)) ?_
    refine AWL.nil ?_
    refine AW.cond rfl (fun h1t => ?_) (fun h1f => ?_)
    ·
      try replace h1t := of_decide_eq_true h1t
      exfalso
      rw [hW] at h1t
      omega
    ·
      try replace h1f := of_decide_eq_false h1f
      refine AW.skip ?_
      refine AW.rseq ?_
      refine AWL.y rfl rfl (B rfl) (Yv.move rfl (E rfl rfl)) ?_
      refine AWL.y rfl rfl (B rfl) (Yv.assign rfl (E rfl rfl)) ?_
      refine AWL.nil ?_
      refine AW.mid (α := Int) (fun n => [(5, true, u8s (WriteF i)), (7, true, .v (.int .i64 n))]) (fun _ => [.box b2 25 [.v (.int .u64 i.entry), .sl 4 (i.segs.flatMap segCells)]]) (fun n => 0 ≤ n ∧ n ≤ 9223372036854775807) ?_ ?_
      ·
        refine AW.rseq ?_
        refine AWL.y rfl rfl (B rfl) (Yv.move rfl (E rfl rfl)) ?_
        refine AWL.y rfl rfl (B rfl) (Yv.lss rfl (E rfl rfl) (E rfl rfl)) ?_
        refine AWL.nil ?_
        refine AW.cond rfl (fun h2t => ?_) (fun h2f => ?_)
        ·
          try replace h2t := of_decide_eq_true h2t
          refine AW.region ?_
          refine AWL.y rfl rfl (B rfl) (Yv.move rfl (E rfl rfl)) ?_
          refine AWL.y rfl rfl (B rfl) (Yv.addN_i64 rfl (E rfl rfl) (E rfl rfl) (fun hg => by omega)) ?_
          refine AWL.y rfl rfl (B rfl) (Yv.neg rfl (E rfl rfl)) ?_
          refine AWL.y rfl rfl (B rfl) (Yv.assign rfl (E rfl rfl)) ?_
          refine AWL.nil ?_
          exact ⟨-(a + 1), ⟨by omega, by omega⟩, (Sub.cons rfl rfl (Sub.cons rfl (congrArg (fun q => T.v (.int .i64 q)) (by rw [IntWalk.i64_in _ ⟨by omega, by omega⟩]; omega)) Sub.nil)), rfl⟩
        ·
          try replace h2f := of_decide_eq_false h2f
          refine AW.skip ?_
          exact ⟨a, ⟨by omega, by omega⟩, (Sub.cons rfl rfl (Sub.cons rfl rfl Sub.nil)), rfl⟩
      ·
        rintro n ⟨hn0, hn1⟩
        rw [← hW] at hwl
        have hm0 := Int.emod_nonneg n (show ((WriteF i).length : Int) ≠ 0 by omega)
        have hm1 := Int.emod_lt_of_pos n (show (0 : Int) < ((WriteF i).length : Int) by omega)
        refine AW.rseq ?_
        refine AWL.y rfl rfl (B rfl) (Yv.move rfl (E rfl rfl)) ?_
        refine AWL.y rfl rfl (B rfl) (Yv.move rfl (E rfl rfl)) ?_
        refine AWL.y rfl rfl (B rfl) (Yv.lenSl rfl so_27 (B rfl) (E rfl rfl) len_u8s) ?_
        refine AWL.y rfl rfl (B rfl) (Yv.remN rfl (E rfl rfl) (E rfl rfl) (fun hg => by omega)) ?_
        refine AWL.y rfl rfl (B rfl) (Yv.assign rfl (E rfl rfl)) ?_
        refine AWL.nil ?_
        refine AW.rseq ?_
        refine AWL.y rfl rfl (B rfl) (Yv.move rfl (E rfl rfl)) ?_
        refine AWL.y rfl rfl (B rfl) (Yv.move rfl (E rfl rfl)) ?_
        refine AWL.y rfl rfl (B rfl) (Yv.sliceMap rfl ss_27 (E rfl rfl) Bound.none_ (Bound.some_ (E rfl rfl) (fun _ => (Int.toNat_of_nonneg (by omega)).symm)) (fun hg => ⟨by omega, by omega⟩)) ?_
        refine AWL.callT rfl rfl (B rfl) rfl ce_16 (E rfl rfl) (evsC (E rfl rfl) evs0) (Load16 _ (by simp only [List.length_take, List.length_drop]; omega)) ?_
        rintro t35 S35 rfl
        have hL := load_cut_n hi hc (n := (n % ((WriteF i).length : Int)).toNat) (by omega) (by omega)
        rw [hL]
        refine AWL.y rfl rfl (B rfl) (Yv.move rfl (E rfl rfl)) ?_
        refine AWL.y rfl rfl (B rfl) (Yv.extract rfl (E rfl rfl) rfl) ?_
        refine AWL.y rfl rfl (B rfl) (Yv.extract rfl (E rfl rfl) rfl) ?_
        refine AWL.allocOp rfl rfl (B rfl) rfl zc_25 (fun b8 => ?_)
        refine AWL.storeBox (i := 1) rfl rfl rfl ag_25 rfl (E rfl rfl) (E rfl rfl) rfl rfl (Nat.le_of_ble_eq_true rfl) ?_
        refine AWL.y rfl rfl (B rfl) (Yv.assign rfl (E rfl rfl)) ?_
        refine AWL.nil ?_
        refine AW.rseq ?_
        refine AWL.y rfl rfl (B rfl) (Yv.move rfl (E rfl rfl)) ?_
        refine AWL.y rfl rfl (B rfl) (Yv.eql rfl (E rfl rfl) (E rfl rfl)) ?_
        refine AWL.y rfl rfl (B rfl) (Yv.move rfl (E rfl rfl)) ?_
        refine AWL.ygT rfl rfl rfl rfl (B rfl) (Yv.loadBoxA rfl ag_25 (i := 1) rfl (E rfl rfl) rfl rfl) ?_
        refine AWL.ygT rfl rfl rfl rfl (B rfl) (Yv.buildS rfl sh_25 evp0 (fun _ => rfl)) ?_
        refine AWL.retype (k := 42) rfl zero_img ?_
        refine AWL.callPgT rfl rfl rfl rfl (B rfl) rfl ce_17 (E rfl rfl) (evsC (Eg rfl rfl id) (evsC (Eg rfl rfl id) evs0)) (fun hg => same17 ⟨0, []⟩ ⟨0, []⟩ zero_ok zero_ok) (fun t S h => h) ?_
        refine AWL.y rfl rfl (B rfl) (Yv.pickAnd rfl (E rfl rfl) (Eg rfl rfl id)) ?_
        refine AWL.y rfl rfl (B rfl) (Yv.move rfl (E rfl rfl)) ?_
        refine AWL.callPgT rfl rfl rfl rfl (B rfl) rfl ce_14 (E rfl rfl) evs0 (fun hg => known14) (fun t S h => h) ?_
        refine AWL.y rfl rfl (B rfl) (Yv.pickAnd rfl (E rfl rfl) (Eg rfl rfl id)) ?_
        refine AWL.y rfl rfl (B rfl) (Yv.assign rfl (E rfl rfl)) ?_
        refine AWL.nil ?_
        refine AW.ret (retI (.tmp rfl .nil) ?_)
        rfl

set_option maxHeartbeats 400000 in
theorem ElfBack5 (i : Img) (tail : List UInt8) (hi : ImgOk i) (hw : (WriteF i).length ≤ 1099511627) (ht : tail.length ≤ 1099511627) :
    ACalls Try.prog 5 [imgT i, u8s tail] [] (fun t S => t = .v (.bool true)) := by
  obtain ⟨hi1, hi2, hi3, hi4⟩ := hi
  have hi := (⟨hi1, hi2, hi3, hi4⟩ : ImgOk i)
  refine ACalls.intro Try.func5 rfl Try.ntmps5 (Nat.le_of_ble_eq_true rfl) rfl fun X w0 => ?_
  refine AW.rseq ?_
  refine AWL.boxOp rfl rfl (B rfl) rfl (E rfl rfl) rfl (fun b2 => ?_)
  refine AWL.y rfl rfl (B rfl) (Yv.assign rfl (E rfl rfl)) ?_
  refine AWL.nil ?_
  refine AW.rseq ?_
  refine AWL.y rfl rfl (B rfl) (Yv.loadBoxA rfl ag_25 (i := 0) rfl (E rfl rfl) rfl rfl) ?_
  refine AWL.call rfl rfl (B rfl) rfl ce_10 (E rfl rfl) (evsC (E rfl rfl) evs0) (S1 := []) (S2 := _) rfl (Write10 i hi) ?_
  rintro t11 S11 ⟨A11, c11, rfl, rfl⟩
  refine AWL.y rfl rfl (B rfl) (Yv.move rfl (E rfl rfl)) ?_
  refine AWL.y rfl rfl (B rfl) (Yv.extract rfl (E rfl rfl) rfl) ?_
  refine AWL.y rfl rfl (B rfl) (Yv.extract rfl (E rfl rfl) rfl) ?_
  refine AWL.y rfl rfl (B rfl) (Yv.assign rfl (E rfl rfl)) ?_
  refine AWL.y rfl rfl (B rfl) (Yv.assign rfl (E rfl rfl)) ?_
  refine AWL.nil ?_
  refine AW.freeze 0 5 rfl (B rfl) rfl ?_
  refine AW.seq ?_
  refine AW.rseq ?_
  refine AWL.y rfl rfl (B rfl) (Yv.move rfl (E rfl rfl)) ?_
  refine AWL.y rfl rfl (B rfl) (Yv.neq rfl (E rfl rfl) (E rfl rfl)) ?_
  refine AWL.nil ?_
  refine AW.cond rfl (fun h0t => ?_) (fun h0f => ?_)
  ·
    try replace h0t := of_decide_eq_true h0t
    simp only [Bool.or_eq_true, Bool.and_eq_true, Bool.or_eq_false_iff, Bool.and_eq_false_iff, Bool.not_eq_true', Bool.not_eq_false', decide_eq_true_eq, decide_eq_false_iff_not, Decidable.not_not] at h0t
    have hc := (errOf_ne _).1 h0t
    refine AW.rseq ?_
    refine AWL.y rfl rfl (B rfl) (Yv.move rfl (E rfl rfl)) ?_
    refine AWL.y rfl rfl (B rfl) (Yv.eql rfl (E rfl rfl) (E rfl rfl)) ?_
    refine AWL.y rfl rfl (B rfl) (Yv.move rfl (E rfl rfl)) ?_
    refine AWL.ygT rfl rfl rfl rfl (B rfl) (Yv.move rfl (E rfl rfl)) ?_
    refine AWL.ygT rfl rfl rfl rfl (B rfl) (Yv.lenSl rfl so_27 (B rfl) (Eg rfl rfl id) len_u8s) ?_
    refine AWL.ygT rfl rfl rfl rfl (B rfl) (Yv.eql rfl (Eg rfl rfl id) (E rfl rfl)) ?_
    refine AWL.y rfl rfl (B rfl) (Yv.pickAnd rfl (E rfl rfl) (Eg rfl rfl id)) ?_
    refine AWL.y rfl rfl (B rfl) (Yv.move rfl (E rfl rfl)) ?_
    refine AWL.ygT rfl rfl rfl rfl (B rfl) (Yv.loadBoxA rfl ag_25 (i := 0) rfl (E rfl rfl) rfl rfl) ?_
    refine AWL.callPgT rfl rfl rfl rfl (B rfl) rfl ce_11 (E rfl rfl) (evsC (Eg rfl rfl id) evs0) (fun hg => check11 i hi) (fun t S h => h) ?_
    refine AWL.ygT rfl rfl rfl rfl (B rfl) (Yv.eql rfl (Eg rfl rfl id) (E rfl rfl)) ?_
    refine AWL.y rfl rfl (B rfl) (Yv.pickAnd rfl (E rfl rfl) (Eg rfl rfl id)) ?_
    refine AWL.y rfl rfl (B rfl) (Yv.move rfl (E rfl rfl)) ?_
    refine AWL.callPgT rfl rfl rfl rfl (B rfl) rfl ce_14 (E rfl rfl) evs0 (fun hg => known14) (fun t S h => h) ?_
    refine AWL.y rfl rfl (B rfl) (Yv.pickAnd rfl (E rfl rfl) (Eg rfl rfl id)) ?_
    refine AWL.y rfl rfl (B rfl) (Yv.assign rfl (E rfl rfl)) ?_
    refine AWL.nil ?_
    refine AW.ret (retI (.tmp rfl .nil) ?_)
    have e : WriteF i = [] := by unfold WriteF; rw [hc]; rfl
    rw [hc, e]; rfl
  ·
    try replace h0f := of_decide_eq_false h0f
    simp only [Bool.or_eq_true, Bool.and_eq_true, Bool.or_eq_false_iff, Bool.and_eq_false_iff, Bool.not_eq_true', Bool.not_eq_false', decide_eq_true_eq, decide_eq_false_iff_not, Decidable.not_not] at h0f
    have hc : checkedB i true = true := by
      rw [← Bool.not_eq_false]; intro h; exact (errOf_ne _).2 h h0f
    have hW := WriteF_is hc
    have hwl := writeF_long i
    refine AW.skip ?_
    have hL : LoadF (WriteF i ++ tail) = some i := by
      rw [hW]; rw [hW] at hw
      exact load_back hi hc tail (by rw [List.length_append]; omega)
    refine AW.rseq ?_
    refine AWL.buildSliceRow rfl rfl (B rfl) rfl el_27 (B rfl) rfl evs0 (Nat.le_of_ble_eq_true rfl) rfl rfl (fun A32 => ?_)
    refine AWL.y rfl rfl (B rfl) (Yv.move rfl (E rfl rfl)) ?_
    refine AWL.appendRow (i := 1) rfl rfl (B rfl) rfl el_27 (B rfl) rfl (E rfl rfl) (SrcT.sl so_27 (B rfl) (E rfl rfl) len_u8s) (by unfold maxLen; omega) (by omega) (fun A34 c34 => ?_)
    refine AWL.y rfl rfl (B rfl) (Yv.move rfl (E rfl rfl)) ?_
    refine AWL.appendRow (i := 1) rfl rfl (B rfl) rfl el_27 (B rfl) rfl (E rfl rfl) (SrcT.sl so_27 (B rfl) (E rfl rfl) len_u8s) (by unfold maxLen; omega) (by omega) (fun A36 c36 => ?_)
    refine AWL.freeze 1 36 rfl (B rfl) rfl ?_
    refine AWL.retype (k := 36) (t' := u8s (WriteF i ++ tail)) rfl (fun w L u h => by simpa [u8s] using h) ?_
    refine AWL.callT rfl rfl (B rfl) rfl ce_16 (E rfl rfl) (evsC (E rfl rfl) evs0) (Load16 (WriteF i ++ tail) (by rw [List.length_append]; omega)) ?_
    rintro t37 S37 rfl
    rw [hL]
    refine AWL.y rfl rfl (B rfl) (Yv.move rfl (E rfl rfl)) ?_
    refine AWL.y rfl rfl (B rfl) (Yv.extract rfl (E rfl rfl) rfl) ?_
    refine AWL.y rfl rfl (B rfl) (Yv.extract rfl (E rfl rfl) rfl) ?_
    refine AWL.allocOp rfl rfl (B rfl) rfl zc_25 (fun b7 => ?_)
    refine AWL.storeBox (i := 1) rfl rfl rfl ag_25 rfl (E rfl rfl) (E rfl rfl) rfl rfl (Nat.le_of_ble_eq_true rfl) ?_
    refine AWL.y rfl rfl (B rfl) (Yv.assign rfl (E rfl rfl)) ?_
    refine AWL.nil ?_
    refine AW.rseq ?_
    refine AWL.y rfl rfl (B rfl) (Yv.move rfl (E rfl rfl)) ?_
    refine AWL.y rfl rfl (B rfl) (Yv.eql rfl (E rfl rfl) (E rfl rfl)) ?_
    refine AWL.y rfl rfl (B rfl) (Yv.move rfl (E rfl rfl)) ?_
    refine AWL.ygT rfl rfl rfl rfl (B rfl) (Yv.loadBoxA rfl ag_25 (i := 0) rfl (E rfl rfl) rfl rfl) ?_
    refine AWL.ygT rfl rfl rfl rfl (B rfl) (Yv.loadBoxA rfl ag_25 (i := 1) rfl (E rfl rfl) rfl rfl) ?_
    refine AWL.callPgT rfl rfl rfl rfl (B rfl) rfl ce_17 (E rfl rfl) (evsC (Eg rfl rfl id) (evsC (Eg rfl rfl id) evs0)) (fun hg => same17 i i hi hi) (fun t S h => h) ?_
    refine AWL.y rfl rfl (B rfl) (Yv.pickAnd rfl (E rfl rfl) (Eg rfl rfl id)) ?_
    refine AWL.y rfl rfl (B rfl) (Yv.move rfl (E rfl rfl)) ?_
    refine AWL.ygT rfl rfl rfl rfl (B rfl) (Yv.loadBoxA rfl ag_25 (i := 0) rfl (E rfl rfl) rfl rfl) ?_
    refine AWL.callPgT rfl rfl rfl rfl (B rfl) rfl ce_11 (E rfl rfl) (evsC (Eg rfl rfl id) evs0) (fun hg => check11 i hi) (fun t S h => h) ?_
    refine AWL.ygT rfl rfl rfl rfl (B rfl) (Yv.eql rfl (Eg rfl rfl id) (E rfl rfl)) ?_
    refine AWL.y rfl rfl (B rfl) (Yv.pickAnd rfl (E rfl rfl) (Eg rfl rfl id)) ?_
    refine AWL.y rfl rfl (B rfl) (Yv.move rfl (E rfl rfl)) ?_
    refine AWL.callPgT rfl rfl rfl rfl (B rfl) rfl ce_14 (E rfl rfl) evs0 (fun hg => known14) (fun t S h => h) ?_
    refine AWL.y rfl rfl (B rfl) (Yv.pickAnd rfl (E rfl rfl) (Eg rfl rfl id)) ?_
    refine AWL.y rfl rfl (B rfl) (Yv.assign rfl (E rfl rfl)) ?_
    refine AWL.nil ?_
    refine AW.ret (retI (.tmp rfl .nil) ?_)
    rw [hc, decide_eq_true (show i = i from rfl)]; rfl

end Go.Proofs.Ytckkcncgglfbbaa
