/-
  CONTRACTS of the heap package: one thing read; walked by program.
-/
import Derived.Test.YtbndnmmceccbkaaWk7
import Derived.Test.YtbndnmmceccbkaaReadB
namespace Go.Proofs.Ytbndnmmceccbkaa
open Go Go.RowKit
set_option linter.unusedVariables false

set_option maxHeartbeats 1000000 in
theorem thing54 (b : List UInt8) (a : Int) (row : List Int) (bm br : Nat) (A : Option Addr) (c : Nat) (ws : List Int) (x : Int) (h0 : 0 ≤ x) (h1 : x ≤ 18446744073709551615) (hb : b.length ≤ 1099511627) (hws : ws.length ≤ 1099511627) (ha0 : 0 ≤ a) (ha1 : a + b.length ≤ 9223372036854775808) (ha8 : a % 8 = 0) (hrr : RowR b ws row) :
    ACalls Try.prog 54 [.v (vp br), .v (.int .u64 x)] (RS bm br b a A c row) (fun t_ S => ∃ t' ok row' A' c' E, t_ = .tup [thingT t', .v (.bool ok)] ∧ S = RS bm br b a A' c' row' ++ [E] ∧ thingR b a row x = if ok = true then some (row', t') else none) := by
  have hrl := hrr.len
  refine ACalls.intro Try.func54 rfl Try.ntmps54 (Nat.le_of_ble_eq_true rfl) rfl fun X w0 => ?_
  refine AW.rseq ?_
  refine AWL.allocOp rfl rfl (B rfl) rfl zc_24 (fun b4 => ?_)
  refine AWL.y rfl rfl (B rfl) (Yv.assign rfl (E rfl rfl)) ?_
  refine AWL.nil ?_
  refine AW.rowNil 54 2 ?_
  refine AW.freezeCell 4 3 3 rfl (by decide) rfl rfl ?_
  refine AW.rseq ?_
  refine AWL.y rfl rfl (B rfl) (Yv.move rfl (E rfl rfl)) ?_
  refine AWL.y rfl rfl (B rfl) (Yv.nilChk rfl (E rfl rfl)) ?_
  refine AWL.y rfl rfl (B rfl) (Yv.fieldBox rfl fo_84_0 (E rfl rfl)) ?_
  refine AWL.y rfl rfl (B rfl) (Yv.loadBox rfl ag_40 (i := 1) rfl (E rfl rfl) rfl) ?_
  refine AWL.y rfl rfl (B rfl) (Yv.lenSl rfl so_40 (B rfl) (E rfl rfl) len_u8s) ?_
  refine AWL.y rfl rfl (B rfl) (Yv.convN_u64 rfl Try.underlying3 kd_29 (E rfl rfl) (fun hg => by omega)) ?_
  refine AWL.y rfl rfl (B rfl) (Yv.assign rfl (E rfl rfl)) ?_
  refine AWL.nil ?_
  refine AW.seq ?_
  refine AW.rseq ?_
  refine AWL.y rfl rfl (B rfl) (Yv.move rfl (E rfl rfl)) ?_
  refine AWL.y rfl rfl (B rfl) (Yv.remN rfl (E rfl rfl) (E rfl rfl) (fun hg => by omega)) ?_
  refine AWL.y rfl rfl (B rfl) (Yv.neq rfl (E rfl rfl) (E rfl rfl)) ?_
  refine AWL.y rfl rfl (B rfl) (Yv.move rfl (E rfl rfl)) ?_
  refine AWL.ygF rfl rfl rfl rfl (B rfl) (Yv.move rfl (E rfl rfl)) ?_
  refine AWL.ygF rfl rfl rfl rfl (B rfl) (Yv.move rfl (E rfl rfl)) ?_
  refine AWL.ygF rfl rfl rfl rfl (B rfl) (Yv.nilChk rfl (Eg rfl rfl id)) ?_
  refine AWL.ygF rfl rfl rfl rfl (B rfl) (Yv.fieldBox rfl fo_84_1 (Eg rfl rfl id)) ?_
  refine AWL.ygF rfl rfl rfl rfl (B rfl) (Yv.loadBox rfl ag_29 (i := 1) rfl (Eg rfl rfl id) rfl) ?_
  refine AWL.ygF rfl rfl rfl rfl (B rfl) (Yv.lss rfl (Eg rfl rfl id) (Eg rfl rfl id)) ?_
  refine AWL.y rfl rfl (B rfl) (Yv.pickOr (t := .const (.bool true)) rfl (E rfl rfl) (Eg rfl rfl id)) ?_
  refine AWL.y rfl rfl (B rfl) (Yv.move rfl (E rfl rfl)) ?_
  refine AWL.ygF rfl rfl rfl rfl (B rfl) (Yv.move rfl (E rfl rfl)) ?_
  refine AWL.ygF rfl rfl rfl rfl (B rfl) (Yv.move rfl (E rfl rfl)) ?_
  refine AWL.ygF rfl rfl rfl rfl (B rfl) (Yv.nilChk rfl (Eg rfl rfl id)) ?_
  refine AWL.ygF rfl rfl rfl rfl (B rfl) (Yv.fieldBox rfl fo_84_1 (Eg rfl rfl id)) ?_
  refine AWL.ygF rfl rfl rfl rfl (B rfl) (Yv.loadBox rfl ag_29 (i := 1) rfl (Eg rfl rfl id) rfl) ?_
  refine AWL.ygF rfl rfl rfl rfl (B rfl) (Yv.subN_u64 rfl (Eg rfl rfl id) (Eg rfl rfl id) (fun hg => by first | omega | (simp only [Bool.and_eq_true, Bool.or_eq_false_iff, Bool.not_eq_true', Bool.not_eq_false', decide_eq_true_eq, decide_eq_false_iff_not] at hg; omega))) ?_
  refine AWL.ygF rfl rfl rfl rfl (B rfl) (Yv.move rfl (E rfl rfl)) ?_
  refine AWL.ygF rfl rfl rfl rfl (B rfl) (Yv.gtr rfl (Eg rfl rfl id) (Eg rfl rfl id)) ?_
  refine AWL.y rfl rfl (B rfl) (Yv.pickOr (t := .const (.bool true)) rfl (E rfl rfl) (Eg rfl rfl id)) ?_
  refine AWL.y rfl rfl (B rfl) (Yv.move rfl (E rfl rfl)) ?_
  refine AWL.ygF rfl rfl rfl rfl (B rfl) (Yv.move rfl (E rfl rfl)) ?_
  refine AWL.ygF rfl rfl rfl rfl (B rfl) (Yv.move rfl (E rfl rfl)) ?_
  refine AWL.ygF rfl rfl rfl rfl (B rfl) (Yv.move rfl (E rfl rfl)) ?_
  refine AWL.ygF rfl rfl rfl rfl (B rfl) (Yv.nilChk rfl (Eg rfl rfl id)) ?_
  refine AWL.ygF rfl rfl rfl rfl (B rfl) (Yv.fieldBox rfl fo_84_1 (Eg rfl rfl id)) ?_
  refine AWL.ygF rfl rfl rfl rfl (B rfl) (Yv.loadBox rfl ag_29 (i := 1) rfl (Eg rfl rfl id) rfl) ?_
  refine AWL.ygF rfl rfl rfl rfl (B rfl) (Yv.subN_u64 rfl (Eg rfl rfl id) (Eg rfl rfl id) (fun hg => by first | omega | (simp only [Bool.and_eq_true, Bool.or_eq_false_iff, Bool.not_eq_true', Bool.not_eq_false', decide_eq_true_eq, decide_eq_false_iff_not] at hg; omega))) ?_
  refine AWL.ygF rfl rfl rfl rfl (B rfl) (Yv.subN_u64 rfl (Eg rfl rfl id) (Eg rfl rfl id) (fun hg => by first | omega | (simp only [Bool.and_eq_true, Bool.or_eq_false_iff, Bool.not_eq_true', Bool.not_eq_false', decide_eq_true_eq, decide_eq_false_iff_not] at hg; omega))) ?_
  refine AWL.ygF rfl rfl rfl rfl (B rfl) (Yv.lss rfl (Eg rfl rfl id) (E rfl rfl)) ?_
  refine AWL.y rfl rfl (B rfl) (Yv.pickOr (t := .const (.bool true)) rfl (E rfl rfl) (Eg rfl rfl id)) ?_
  refine AWL.nil ?_
  refine AW.cond rfl (fun h0t => ?_) (fun h0f => ?_)
  ·
    try replace h0t := of_decide_eq_true h0t
    refine AW.rseq ?_
    refine AWL.y rfl rfl (B rfl) (Yv.loadBoxA rfl ag_24 (i := 3) rfl (E rfl rfl) rfl rfl) ?_
    refine AWL.storeBox (i := 3) rfl rfl rfl ag_24 rfl (E rfl rfl) (E rfl rfl) rfl rfl (Nat.le_of_ble_eq_true rfl) ?_
    refine AWL.y rfl rfl (B rfl) (Yv.assign rfl (E rfl rfl)) ?_
    refine AWL.nil ?_
    refine AW.ret (retI (.cellA (i := 3) rfl ag_24 rfl rfl rfl (.tmp rfl .nil)) ?_)
    exact ⟨⟨0, 0, [], []⟩, false, row, A, c, _, rfl, rfl, by rw [thingR_bad0 h0t]; rfl⟩
  ·
    try replace h0f := of_decide_eq_false h0f
    simp only [Bool.or_eq_true, Bool.and_eq_true, Bool.or_eq_false_iff, Bool.and_eq_false_iff, Bool.not_eq_true', Bool.not_eq_false', decide_eq_true_eq, decide_eq_false_iff_not, Decidable.not_not] at h0f
    have hb0 : bad0 b a x = false := by simp only [bad0, Bool.or_eq_false_iff, Bool.not_eq_false', decide_eq_true_eq, decide_eq_false_iff_not]; exact h0f
    obtain ⟨o, ho⟩ : ∃ o : Nat, x - a = (o : Int) := ⟨(x - a).toNat, by omega⟩
    have ho8 : o % 8 = 0 := by omega
    have hol : o + 8 ≤ b.length := by omega
    have hwr := wordAt_range b o
    obtain ⟨n, hn⟩ : ∃ n : Nat, (wordAt b o) / 16777216 = n := ⟨((wordAt b o) / 16777216).toNat, by omega⟩
    have hsr := span_range ((wordAt b o) / 2 % 16) n (by omega)
    refine AW.skip ?_
    refine AW.rseq ?_
    refine AWL.y rfl rfl (B rfl) (Yv.move rfl (E rfl rfl)) ?_
    refine AWL.y rfl rfl (B rfl) (Yv.move rfl (E rfl rfl)) ?_
    refine AWL.y rfl rfl (B rfl) (Yv.nilChk rfl (E rfl rfl)) ?_
    refine AWL.y rfl rfl (B rfl) (Yv.fieldBox rfl fo_84_1 (E rfl rfl)) ?_
    refine AWL.y rfl rfl (B rfl) (Yv.loadBox rfl ag_29 (i := 1) rfl (E rfl rfl) rfl) ?_
    refine AWL.y rfl rfl (B rfl) (Yv.subN_u64 rfl (E rfl rfl) (E rfl rfl) (fun hg => by omega)) ?_
    refine AWL.y rfl rfl (B rfl) (Yv.assign rfl (E rfl rfl)) ?_
    refine AWL.nil ?_
    refine AW.retype (k := 7) (t' := .v (.int .u64 (o : Int))) rfl (fun w L u h => by rw [← ho]; exact h) ?_
    refine AW.rseq ?_
    refine AWL.y rfl rfl (B rfl) (Yv.move rfl (E rfl rfl)) ?_
    refine AWL.y rfl rfl (B rfl) (Yv.nilChk rfl (E rfl rfl)) ?_
    refine AWL.y rfl rfl (B rfl) (Yv.fieldBox rfl fo_84_0 (E rfl rfl)) ?_
    refine AWL.y rfl rfl (B rfl) (Yv.loadBox rfl ag_40 (i := 1) rfl (E rfl rfl) rfl) ?_
    refine AWL.y rfl rfl (B rfl) (Yv.move rfl (E rfl rfl)) ?_
    refine AWL.callP rfl rfl (B rfl) rfl ce_61 (E rfl rfl) (evsC (E rfl rfl) (evsC (E rfl rfl) evs0)) (word61 b o (by omega) (by omega)) (fun t S h => h) ?_
    refine AWL.y rfl rfl (B rfl) (Yv.assign rfl (E rfl rfl)) ?_
    refine AWL.nil ?_
    refine AW.retype (k := 8) (t' := .v (.int .u64 (wordAt b o))) rfl (fun w L u h => h) ?_
    refine AW.rseq ?_
    refine AWL.y rfl rfl (B rfl) (Yv.move rfl (E rfl rfl)) ?_
    refine AWL.y rfl rfl (B rfl) (Yv.shrC 16777216 (by decide) (by decide) (by decide) rfl (E rfl rfl) (E rfl rfl)) ?_
    refine AWL.y rfl rfl (B rfl) (Yv.assign rfl (E rfl rfl)) ?_
    refine AWL.nil ?_
    refine AW.retype (k := 9) (t' := .v (.int .u64 (n : Int))) rfl (fun w L u h => by rw [← hn]; exact h) ?_
    refine AW.rseq ?_
    refine AWL.y rfl rfl (B rfl) (Yv.move rfl (E rfl rfl)) ?_
    refine AWL.y rfl rfl (B rfl) (Yv.shrC 2 (by decide) (by decide) (by decide) rfl (E rfl rfl) (E rfl rfl)) ?_
    refine AWL.y rfl rfl (B rfl) (Yv.andN_u64 4 16 (by decide) (by decide) (by decide) rfl (E rfl rfl) (E rfl rfl) (fun hg => ⟨by omega, by omega⟩)) ?_
    refine AWL.y rfl rfl (B rfl) (Yv.convN_i64 rfl Try.underlying29 kd_3 (E rfl rfl) (fun hg => by omega)) ?_
    refine AWL.y rfl rfl (B rfl) (Yv.move rfl (E rfl rfl)) ?_
    refine AWL.y rfl rfl (B rfl) (Yv.shrC 256 (by decide) (by decide) (by decide) rfl (E rfl rfl) (E rfl rfl)) ?_
    refine AWL.y rfl rfl (B rfl) (Yv.andN_u64 16 65536 (by decide) (by decide) (by decide) rfl (E rfl rfl) (E rfl rfl) (fun hg => ⟨by omega, by omega⟩)) ?_
    refine AWL.y rfl rfl (B rfl) (Yv.convN_i64 rfl Try.underlying29 kd_3 (E rfl rfl) (fun hg => by omega)) ?_
    refine AWL.y rfl rfl (B rfl) (Yv.fieldBox rfl fo_24_0 (E rfl rfl)) ?_
    refine AWL.storeBox (i := 3) rfl rfl rfl ag_3 rfl (E rfl rfl) (E rfl rfl) rfl rfl (Nat.le_of_ble_eq_true rfl) ?_
    refine AWL.y rfl rfl (B rfl) (Yv.fieldBox rfl fo_24_1 (E rfl rfl)) ?_
    refine AWL.storeBox (i := 3) rfl rfl rfl ag_3 rfl (E rfl rfl) (E rfl rfl) rfl rfl (Nat.le_of_ble_eq_true rfl) ?_
    refine AWL.nil ?_
    refine AW.seq ?_
    refine AW.rseq ?_
    refine AWL.y rfl rfl (B rfl) (Yv.move rfl (E rfl rfl)) ?_
    refine AWL.y rfl rfl (B rfl) (Yv.andN_u64 1 2 (by decide) (by decide) (by decide) rfl (E rfl rfl) (E rfl rfl) (fun hg => ⟨by omega, by omega⟩)) ?_
    refine AWL.y rfl rfl (B rfl) (Yv.eql rfl (E rfl rfl) (E rfl rfl)) ?_
    refine AWL.y rfl rfl (B rfl) (Yv.move rfl (E rfl rfl)) ?_
    refine AWL.ygF rfl rfl rfl rfl (B rfl) (Yv.move rfl (E rfl rfl)) ?_
    refine AWL.ygF rfl rfl rfl rfl (B rfl) (Yv.bits rfl rfl (Eg rfl rfl id) (E rfl rfl)) ?_
    refine AWL.ygF rfl rfl rfl rfl (B rfl) (Yv.neq rfl (Eg rfl rfl id) (E rfl rfl)) ?_
    refine AWL.y rfl rfl (B rfl) (Yv.pickOr (t := .const (.bool true)) rfl (E rfl rfl) (Eg rfl rfl id)) ?_
    refine AWL.y rfl rfl (B rfl) (Yv.move rfl (E rfl rfl)) ?_
    refine AWL.ygF rfl rfl rfl rfl (B rfl) (Yv.fieldBox rfl fo_24_0 (E rfl rfl)) ?_
    refine AWL.ygF rfl rfl rfl rfl (B rfl) (Yv.loadBox rfl ag_3 (i := 3) rfl (Eg rfl rfl id) rfl) ?_
    refine AWL.ygF rfl rfl rfl rfl (B rfl) (Yv.lss rfl (Eg rfl rfl id) (E rfl rfl)) ?_
    refine AWL.y rfl rfl (B rfl) (Yv.pickOr (t := .const (.bool true)) rfl (E rfl rfl) (Eg rfl rfl id)) ?_
    refine AWL.y rfl rfl (B rfl) (Yv.move rfl (E rfl rfl)) ?_
    refine AWL.ygF rfl rfl rfl rfl (B rfl) (Yv.fieldBox rfl fo_24_0 (E rfl rfl)) ?_
    refine AWL.ygF rfl rfl rfl rfl (B rfl) (Yv.loadBox rfl ag_3 (i := 3) rfl (Eg rfl rfl id) rfl) ?_
    refine AWL.ygF rfl rfl rfl rfl (B rfl) (Yv.gtr rfl (Eg rfl rfl id) (E rfl rfl)) ?_
    refine AWL.y rfl rfl (B rfl) (Yv.pickOr (t := .const (.bool true)) rfl (E rfl rfl) (Eg rfl rfl id)) ?_
    refine AWL.y rfl rfl (B rfl) (Yv.move rfl (E rfl rfl)) ?_
    refine AWL.ygF rfl rfl rfl rfl (B rfl) (Yv.fieldBox rfl fo_24_0 (E rfl rfl)) ?_
    refine AWL.ygF rfl rfl rfl rfl (B rfl) (Yv.loadBox rfl ag_3 (i := 3) rfl (Eg rfl rfl id) rfl) ?_
    refine AWL.ygF rfl rfl rfl rfl (B rfl) (Yv.move rfl (E rfl rfl)) ?_
    refine AWL.ygF rfl rfl rfl rfl (B rfl) (Yv.convN_i64 rfl Try.underlying29 kd_2 (Eg rfl rfl id) (fun hg => by first | omega | (simp only [Bool.and_eq_true, Bool.or_eq_false_iff, Bool.not_eq_true', Bool.not_eq_false', decide_eq_true_eq, decide_eq_false_iff_not] at hg; omega))) ?_
    refine AWL.callPgF rfl rfl rfl rfl (B rfl) rfl ce_30 (E rfl rfl) (evsC (Eg rfl rfl id) (evsC (Eg rfl rfl id) evs0)) (fun hg => span30 ((wordAt b o) / 2 % 16) n (by omega) (by omega)) (fun t S h => h) ?_
    refine AWL.ygF rfl rfl rfl rfl (B rfl) (Yv.convN_u64 rfl Try.underlying2 kd_29 (Eg rfl rfl id) (fun hg => by first | omega | (simp only [Bool.and_eq_true, Bool.or_eq_false_iff, Bool.not_eq_true', Bool.not_eq_false', decide_eq_true_eq, decide_eq_false_iff_not] at hg; omega))) ?_
    refine AWL.ygF rfl rfl rfl rfl (B rfl) (Yv.move rfl (E rfl rfl)) ?_
    refine AWL.ygF rfl rfl rfl rfl (B rfl) (Yv.move rfl (E rfl rfl)) ?_
    refine AWL.ygF rfl rfl rfl rfl (B rfl) (Yv.subN_u64 rfl (Eg rfl rfl id) (Eg rfl rfl id) (fun hg => by first | omega | (simp only [Bool.and_eq_true, Bool.or_eq_false_iff, Bool.not_eq_true', Bool.not_eq_false', decide_eq_true_eq, decide_eq_false_iff_not] at hg; omega))) ?_
    refine AWL.ygF rfl rfl rfl rfl (B rfl) (Yv.gtr rfl (Eg rfl rfl id) (Eg rfl rfl id)) ?_
    refine AWL.y rfl rfl (B rfl) (Yv.pickOr (t := .const (.bool true)) rfl (E rfl rfl) (Eg rfl rfl id)) ?_
    refine AWL.nil ?_
    refine AW.cond rfl (fun h1t => ?_) (fun h1f => ?_)
    ·
      try replace h1t := of_decide_eq_true h1t
      rw [← hn] at h1t
      refine AW.rseq ?_
      refine AWL.y rfl rfl (B rfl) (Yv.loadBoxA rfl ag_24 (i := 3) rfl (E rfl rfl) rfl rfl) ?_
      refine AWL.storeBox (i := 3) rfl rfl rfl ag_24 rfl (E rfl rfl) (E rfl rfl) rfl rfl (Nat.le_of_ble_eq_true rfl) ?_
      refine AWL.y rfl rfl (B rfl) (Yv.assign rfl (E rfl rfl)) ?_
      refine AWL.nil ?_
      refine AW.ret (retI (.cellA (i := 3) rfl ag_24 rfl rfl rfl (.tmp rfl .nil)) ?_)
      exact ⟨⟨((wordAt b o) / 2 % 16), ((wordAt b o) / 256 % 65536), [], []⟩, false, row, A, c, _, rfl, rfl, by rw [thingR_bad1 ho hb0 h1t]; rfl⟩
    ·
      try replace h1f := of_decide_eq_false h1f
      have hb1 : bad1 (wordAt b o) (b.length - o) = false := by unfold bad1; rw [hn]; exact h1f
      simp only [Bool.or_eq_true, Bool.and_eq_true, Bool.or_eq_false_iff, Bool.and_eq_false_iff, Bool.not_eq_true', Bool.not_eq_false', decide_eq_true_eq, decide_eq_false_iff_not, Decidable.not_not] at h1f
      refine AW.skip ?_
      refine AW.mid (α := (List Int × Thing) × (Option Addr × Nat)) (fun q => [(4, true, .v (vp b4))]) (fun q => RS bm br b a q.2.1 q.2.2 q.1.1 ++ [.box b4 24 (thingCells q.1.2)]) (fun q => body b o (wordAt b o) row = some q.1) ?_ ?_
      ·
        refine AW.block ?_
        refine AW.rseq ?_
        refine AWL.y rfl rfl (B rfl) (Yv.fieldBox rfl fo_24_0 (E rfl rfl)) ?_
        refine AWL.y rfl rfl (B rfl) (Yv.loadBox rfl ag_3 (i := 3) rfl (E rfl rfl) rfl) ?_
        refine AWL.callP rfl rfl (B rfl) rfl ce_55 (E rfl rfl) (evsC (E rfl rfl) evs0) (bytes55 ((wordAt b o) / 2 % 16)) (fun t S h => h) ?_
        refine AWL.y rfl rfl (B rfl) (Yv.assign rfl (E rfl rfl)) ?_
        refine AWL.nil ?_
        refine AW.cond rfl (fun h2t => ?_) (fun h2f => ?_)
        ·
          try replace h2t := of_decide_eq_true h2t
          have hsp := span_bytes (n : Int) h2t
          have hzl : (zsOf b o n ((wordAt b o) / 2 % 16)).length ≤ b.length := by unfold zsOf; rw [List.length_take, List.length_drop]; omega
          refine AW.rseq ?_
          refine AWL.y rfl rfl (B rfl) (Yv.move rfl (E rfl rfl)) ?_
          refine AWL.y rfl rfl (B rfl) (Yv.nilChk rfl (E rfl rfl)) ?_
          refine AWL.y rfl rfl (B rfl) (Yv.fieldBox rfl fo_84_0 (E rfl rfl)) ?_
          refine AWL.y rfl rfl (B rfl) (Yv.loadBox rfl ag_40 (i := 1) rfl (E rfl rfl) rfl) ?_
          refine AWL.y rfl rfl (B rfl) (Yv.move rfl (E rfl rfl)) ?_
          refine AWL.y rfl rfl (B rfl) (Yv.addN_u64 rfl (E rfl rfl) (E rfl rfl) (fun hg => by omega)) ?_
          refine AWL.y rfl rfl (B rfl) (Yv.move rfl (E rfl rfl)) ?_
          refine AWL.y rfl rfl (B rfl) (Yv.addN_u64 rfl (E rfl rfl) (E rfl rfl) (fun hg => by omega)) ?_
          refine AWL.y rfl rfl (B rfl) (Yv.move rfl (E rfl rfl)) ?_
          refine AWL.y rfl rfl (B rfl) (Yv.addN_u64 rfl (E rfl rfl) (E rfl rfl) (fun hg => by omega)) ?_
          refine AWL.y rfl rfl (B rfl) (Yv.sliceMap rfl ss_40 (E rfl rfl) (Bound.some_ (j := o + 8) (E rfl rfl) (fun hg => by omega)) (Bound.some_ (j := o + 8 + n) (E rfl rfl) (fun hg => by omega)) (fun hg => ⟨by omega, by omega⟩)) ?_
          refine AWL.y rfl rfl (B rfl) (Yv.bytesStr rfl by_40 st_9 (E rfl rfl)) ?_
          refine AWL.y rfl rfl (B rfl) (Yv.fieldBox rfl fo_24_2 (E rfl rfl)) ?_
          refine AWL.storeBox (i := 3) rfl rfl rfl ag_9 rfl (E rfl rfl) (E rfl rfl) rfl rfl (Nat.le_of_ble_eq_true rfl) ?_
          refine AWL.nil ?_
          refine AW.seq ?_
          refine AW.rseqQ rfl (by kernel_rfl) ?_
          refine AWQ.y rfl rfl (B rfl) (Yv.move rfl (E rfl rfl)) ?_
          refine AWQ.y rfl rfl (B rfl) (Yv.nilChk rfl (E rfl rfl)) ?_
          refine AWQ.y rfl rfl (B rfl) (Yv.fieldBox rfl fo_84_0 (E rfl rfl)) ?_
          refine AWQ.y rfl rfl (B rfl) (Yv.loadBox rfl ag_40 (i := 1) rfl (E rfl rfl) rfl) ?_
          refine AWQ.y rfl rfl (B rfl) (Yv.move rfl (E rfl rfl)) ?_
          refine AWQ.y rfl rfl (B rfl) (Yv.addN_u64 rfl (E rfl rfl) (E rfl rfl) (fun hg => by omega)) ?_
          refine AWQ.y rfl rfl (B rfl) (Yv.move rfl (E rfl rfl)) ?_
          refine AWQ.y rfl rfl (B rfl) (Yv.addN_u64 rfl (E rfl rfl) (E rfl rfl) (fun hg => by omega)) ?_
          refine AWQ.y rfl rfl (B rfl) (Yv.move rfl (E rfl rfl)) ?_
          refine AWQ.y rfl rfl (B rfl) (Yv.fieldBox rfl fo_24_0 (E rfl rfl)) ?_
          refine AWQ.y rfl rfl (B rfl) (Yv.loadBox rfl ag_3 (i := 3) rfl (E rfl rfl) rfl) ?_
          refine AWQ.y rfl rfl (B rfl) (Yv.move rfl (E rfl rfl)) ?_
          refine AWQ.y rfl rfl (B rfl) (Yv.convN_i64 rfl Try.underlying29 kd_2 (E rfl rfl) (fun hg => by omega)) ?_
          refine AWQ.callP rfl rfl (B rfl) rfl ce_30 (E rfl rfl) (evsC (E rfl rfl) (evsC (E rfl rfl) evs0)) (span30 ((wordAt b o) / 2 % 16) n (by omega) (by omega)) (fun t S h => h) ?_
          refine AWQ.y rfl rfl (B rfl) (Yv.convN_u64 rfl Try.underlying2 kd_29 (E rfl rfl) (fun hg => by omega)) ?_
          refine AWQ.y rfl rfl (B rfl) (Yv.addN_u64 rfl (E rfl rfl) (E rfl rfl) (fun hg => by omega)) ?_
          refine AWQ.y rfl rfl (B rfl) (Yv.sliceMap rfl ss_40 (E rfl rfl) (Bound.some_ (j := o + 8 + n) (E rfl rfl) (fun hg => by omega)) (Bound.some_ (j := o + (spanF ((wordAt b o) / 2 % 16) n).toNat) (E rfl rfl) (fun hg => by omega)) (fun hg => ⟨by omega, by omega⟩)) ?_
          refine AWQ.y rfl rfl (B rfl) (Yv.lenSl rfl so_40 (B rfl) (E rfl rfl) len_u8s) ?_
          refine AWQ.y rfl rfl (B rfl) (Yv.move rfl (E rfl rfl)) ?_
          refine AWQ.nil ?_
          refine AW.block ?_
          refine AW.loop (fun (i : Nat) => [(4, true, .v (vp b4)), (5, true, .v (.bool (((zsOf b o n ((wordAt b o) / 2 % 16)).take i).any (fun z => !decide (z = 0))))), (146, true, .sl 1 ((zsOf b o n ((wordAt b o) / 2 % 16)).map u8)), (147, true, .v (.int .i64 ((zsOf b o n ((wordAt b o) / 2 % 16)).length : Int))), (148, true, .v (.int .i64 (i : Int)))]) (fun (i : Nat) => ((RS bm br b a A c row) ++ [.box b4 24 (thingCells ⟨((wordAt b o) / 2 % 16), ((wordAt b o) / 256 % 65536), (b.drop (o + 8)).take (o + 8 + n - (o + 8)), []⟩)])) (fun (i : Nat) => i ≤ (zsOf b o n ((wordAt b o) / 2 % 16)).length) (fun (i : Nat) => (zsOf b o n ((wordAt b o) / 2 % 16)).length - i) 0 ?_ ?_ ?_ ?_
          · exact Nat.zero_le _
          · exact (Sub.cons rfl rfl (Sub.cons rfl rfl (Sub.cons rfl rfl (Sub.cons rfl rfl (Sub.cons rfl rfl Sub.nil)))))
          · rfl
          ·
            intro i hinv
            refine AW.rseq ?_
            refine AWL.y rfl rfl (B rfl) (Yv.lss rfl (E rfl rfl) (E rfl rfl)) ?_
            refine AWL.nil ?_
            refine AW.seq ?_
            refine AW.cond rfl (fun h3t => ?_) (fun h3f => ?_)
            ·
              try replace h3t := of_decide_eq_true h3t
              refine AW.skip ?_
              refine AW.seq ?_
              refine AW.block ?_
              refine AW.rseq ?_
              refine AWL.y rfl rfl (B rfl) (Yv.indexSl rfl ss_40 (B rfl) (E rfl rfl) (E rfl rfl) (fun hg => ⟨rfl, (by first | omega | (simp only [len_refs, len_things, len_u8s]; omega))⟩)) ?_
              refine AWL.y rfl rfl (B rfl) (Yv.loadRp rfl ag_5 (E rfl rfl) (fun hg => u8_get (by omega))) ?_
              refine AWL.y rfl rfl (B rfl) (Yv.assign rfl (E rfl rfl)) ?_
              refine AWL.nil ?_
              refine AW.region ?_
              refine AWL.y rfl rfl (B rfl) (Yv.move rfl (E rfl rfl)) ?_
              refine AWL.y rfl rfl (B rfl) (Yv.move rfl (E rfl rfl)) ?_
              refine AWL.ygF rfl rfl rfl rfl (B rfl) (Yv.move rfl (E rfl rfl)) ?_
              refine AWL.ygF rfl rfl rfl rfl (B rfl) (Yv.neq rfl (Eg rfl rfl id) (E rfl rfl)) ?_
              refine AWL.y rfl rfl (B rfl) (Yv.pickOr (t := .const (.bool true)) rfl (E rfl rfl) (Eg rfl rfl id)) ?_
              refine AWL.y rfl rfl (B rfl) (Yv.assign rfl (E rfl rfl)) ?_
              refine AWL.nil ?_
              refine AW.region ?_
              refine AWL.y rfl rfl (B rfl) (Yv.addN_i64 rfl (E rfl rfl) (E rfl rfl) (fun hg => by omega)) ?_
              refine AWL.y rfl rfl (B rfl) (Yv.move rfl (E rfl rfl)) ?_
              refine AWL.nil ?_
              refine ⟨i + 1, by omega, by omega, Sub.cons rfl rfl (Sub.cons rfl (by rw [any_step _ _ (by omega)]) (Sub.cons rfl rfl (Sub.cons rfl rfl (Sub.cons rfl (by simp) Sub.nil)))), rfl⟩
            ·
              try replace h3f := of_decide_eq_false h3f
              obtain rfl : i = (zsOf b o n ((wordAt b o) / 2 % 16)).length := by omega
              rw [List.take_length]
              refine AW.exit ?_
              refine AW.rseq ?_
              refine AWL.y rfl rfl (B rfl) (Yv.move rfl (E rfl rfl)) ?_
              refine AWL.nil ?_
              refine AW.cond rfl (fun h4t => ?_) (fun h4f => ?_)
              ·
                try replace h4t := of_decide_eq_true h4t
                refine AW.rseq ?_
                refine AWL.y rfl rfl (B rfl) (Yv.loadBoxA rfl ag_24 (i := 3) rfl (E rfl rfl) rfl rfl) ?_
                refine AWL.storeBox (i := 3) rfl rfl rfl ag_24 rfl (E rfl rfl) (E rfl rfl) rfl rfl (Nat.le_of_ble_eq_true rfl) ?_
                refine AWL.y rfl rfl (B rfl) (Yv.assign rfl (E rfl rfl)) ?_
                refine AWL.nil ?_
                refine AW.ret (retI (.cellA (i := 3) rfl ag_24 rfl rfl rfl (.tmp rfl .nil)) ?_)
                exact ⟨⟨((wordAt b o) / 2 % 16), ((wordAt b o) / 256 % 65536), (b.drop (o + 8)).take (o + 8 + n - (o + 8)), []⟩, false, row, A, c, _, rfl, rfl, by rw [thingR_none ho hb0 hb1 (body_zs hn h2t h4t)]; rfl⟩
              ·
                try replace h4f := of_decide_eq_false h4f
                have hz : (zsOf b o n ((wordAt b o) / 2 % 16)).any (fun z => !decide (z = 0)) = false := h4f
                refine AW.skip ?_
                exact ⟨((row, ⟨((wordAt b o) / 2 % 16), ((wordAt b o) / 256 % 65536), (b.drop (o + 8)).take (o + 8 + n - (o + 8)), []⟩), (A, c)), (by rw [show o + 8 + n - (o + 8) = n by omega]; exact body_bytes hn h2t hz), Sub.cons rfl rfl Sub.nil, rfl⟩
        ·
          try replace h2f := of_decide_eq_false h2f
          have h2f : bytesK ((wordAt b o) / 2 % 16) = false := h2f
          have hsp := span_other (n : Int) h2f
          refine AW.rseq ?_
          refine AWL.y rfl rfl (B rfl) (Yv.fieldBox rfl fo_24_0 (E rfl rfl)) ?_
          refine AWL.y rfl rfl (B rfl) (Yv.loadBox rfl ag_3 (i := 3) rfl (E rfl rfl) rfl) ?_
          refine AWL.y rfl rfl (B rfl) (Yv.eql rfl (E rfl rfl) (E rfl rfl)) ?_
          refine AWL.y rfl rfl (B rfl) (Yv.assign rfl (E rfl rfl)) ?_
          refine AWL.nil ?_
          refine AW.cond rfl (fun h5t => ?_) (fun h5f => ?_)
          ·
            try replace h5t := of_decide_eq_true h5t
            refine AW.seq ?_
            refine AW.rseq ?_
            refine AWL.y rfl rfl (B rfl) (Yv.move rfl (E rfl rfl)) ?_
            refine AWL.y rfl rfl (B rfl) (Yv.eql rfl (E rfl rfl) (E rfl rfl)) ?_
            refine AWL.y rfl rfl (B rfl) (Yv.move rfl (E rfl rfl)) ?_
            refine AWL.ygF rfl rfl rfl rfl (B rfl) (Yv.fieldBox rfl fo_24_1 (E rfl rfl)) ?_
            refine AWL.ygF rfl rfl rfl rfl (B rfl) (Yv.loadBox rfl ag_3 (i := 3) rfl (Eg rfl rfl id) rfl) ?_
            refine AWL.ygF rfl rfl rfl rfl (B rfl) (Yv.neq rfl (Eg rfl rfl id) (E rfl rfl)) ?_
            refine AWL.y rfl rfl (B rfl) (Yv.pickOr (t := .const (.bool true)) rfl (E rfl rfl) (Eg rfl rfl id)) ?_
            refine AWL.nil ?_
            refine AW.cond rfl (fun h6t => ?_) (fun h6f => ?_)
            ·
              try replace h6t := of_decide_eq_true h6t
              simp only [Bool.or_eq_true, Bool.and_eq_true, Bool.or_eq_false_iff, Bool.and_eq_false_iff, Bool.not_eq_true', Bool.not_eq_false', decide_eq_true_eq, decide_eq_false_iff_not, Decidable.not_not] at h6t
              refine AW.rseq ?_
              refine AWL.y rfl rfl (B rfl) (Yv.loadBoxA rfl ag_24 (i := 3) rfl (E rfl rfl) rfl rfl) ?_
              refine AWL.storeBox (i := 3) rfl rfl rfl ag_24 rfl (E rfl rfl) (E rfl rfl) rfl rfl (Nat.le_of_ble_eq_true rfl) ?_
              refine AWL.y rfl rfl (B rfl) (Yv.assign rfl (E rfl rfl)) ?_
              refine AWL.nil ?_
              refine AW.ret (retI (.cellA (i := 3) rfl ag_24 rfl rfl rfl (.tmp rfl .nil)) ?_)
              exact ⟨⟨((wordAt b o) / 2 % 16), ((wordAt b o) / 256 % 65536), [], []⟩, false, row, A, c, _, rfl, rfl, by rw [thingR_none ho hb0 hb1 (body_c1 hn h2f h5t h6t)]; rfl⟩
            ·
              try replace h6f := of_decide_eq_false h6f
              simp only [Bool.or_eq_true, Bool.and_eq_true, Bool.or_eq_false_iff, Bool.and_eq_false_iff, Bool.not_eq_true', Bool.not_eq_false', decide_eq_true_eq, decide_eq_false_iff_not, Decidable.not_not] at h6f
              have h6g := h6f
              refine AW.skip ?_
              refine AW.rseq ?_
              refine AWL.y rfl rfl (B rfl) (Yv.move rfl (E rfl rfl)) ?_
              refine AWL.y rfl rfl (B rfl) (Yv.nilChk rfl (E rfl rfl)) ?_
              refine AWL.y rfl rfl (B rfl) (Yv.fieldBox rfl fo_84_0 (E rfl rfl)) ?_
              refine AWL.y rfl rfl (B rfl) (Yv.loadBox rfl ag_40 (i := 1) rfl (E rfl rfl) rfl) ?_
              refine AWL.y rfl rfl (B rfl) (Yv.move rfl (E rfl rfl)) ?_
              refine AWL.y rfl rfl (B rfl) (Yv.addN_u64 rfl (E rfl rfl) (E rfl rfl) (fun hg => by omega)) ?_
              refine AWL.callP rfl rfl (B rfl) rfl ce_61 (E rfl rfl) (evsC (E rfl rfl) (evsC (E rfl rfl) evs0)) (word61 b (o + 8) (by omega) (by omega)) (fun t S h => h) ?_
              refine AWL.y rfl rfl (B rfl) (Yv.sub rfl (E rfl rfl) (E rfl rfl)) ?_
              refine AWL.y rfl rfl (B rfl) (Yv.assign rfl (E rfl rfl)) ?_
              refine AWL.nil ?_
              refine AW.retype (k := 12) (t' := .v (.int .u64 (IntKind.u64.wrap (wordAt b (o + 8) - 4194304)))) rfl (fun w L u h => h) ?_
              refine AW.seq ?_
              have hcr := code_range (wordAt b (o + 8) - 4194304)
              refine AW.rseq ?_
              refine AWL.y rfl rfl (B rfl) (Yv.move rfl (E rfl rfl)) ?_
              refine AWL.y rfl rfl (B rfl) (Yv.remN rfl (E rfl rfl) (E rfl rfl) (fun hg => by omega)) ?_
              refine AWL.y rfl rfl (B rfl) (Yv.neq rfl (E rfl rfl) (E rfl rfl)) ?_
              refine AWL.y rfl rfl (B rfl) (Yv.move rfl (E rfl rfl)) ?_
              refine AWL.ygF rfl rfl rfl rfl (B rfl) (Yv.move rfl (E rfl rfl)) ?_
              refine AWL.ygF rfl rfl rfl rfl (B rfl) (Yv.quoN_u64 rfl (Eg rfl rfl id) (E rfl rfl) (fun hg => by first | omega | (simp only [Bool.and_eq_true, Bool.or_eq_false_iff, Bool.not_eq_true', Bool.not_eq_false', decide_eq_true_eq, decide_eq_false_iff_not] at hg; omega))) ?_
              refine AWL.ygF rfl rfl rfl rfl (B rfl) (Yv.gtr rfl (Eg rfl rfl id) (E rfl rfl)) ?_
              refine AWL.y rfl rfl (B rfl) (Yv.pickOr (t := .const (.bool true)) rfl (E rfl rfl) (Eg rfl rfl id)) ?_
              refine AWL.nil ?_
              refine AW.cond rfl (fun h7t => ?_) (fun h7f => ?_)
              ·
                try replace h7t := of_decide_eq_true h7t
                simp only [Bool.or_eq_true, Bool.and_eq_true, Bool.or_eq_false_iff, Bool.and_eq_false_iff, Bool.not_eq_true', Bool.not_eq_false', decide_eq_true_eq, decide_eq_false_iff_not, Decidable.not_not] at h7t
                refine AW.rseq ?_
                refine AWL.y rfl rfl (B rfl) (Yv.loadBoxA rfl ag_24 (i := 3) rfl (E rfl rfl) rfl rfl) ?_
                refine AWL.storeBox (i := 3) rfl rfl rfl ag_24 rfl (E rfl rfl) (E rfl rfl) rfl rfl (Nat.le_of_ble_eq_true rfl) ?_
                refine AWL.y rfl rfl (B rfl) (Yv.assign rfl (E rfl rfl)) ?_
                refine AWL.nil ?_
                refine AW.ret (retI (.cellA (i := 3) rfl ag_24 rfl rfl rfl (.tmp rfl .nil)) ?_)
                exact ⟨⟨((wordAt b o) / 2 % 16), ((wordAt b o) / 256 % 65536), [], []⟩, false, row, A, c, _, rfl, rfl, by rw [thingR_none ho hb0 hb1 (body_c2 hn h2f h5t h6g h7t)]; rfl⟩
              ·
                try replace h7f := of_decide_eq_false h7f
                simp only [Bool.or_eq_true, Bool.and_eq_true, Bool.or_eq_false_iff, Bool.and_eq_false_iff, Bool.not_eq_true', Bool.not_eq_false', decide_eq_true_eq, decide_eq_false_iff_not, Decidable.not_not] at h7f
                have h7g := h7f
                refine AW.skip ?_
                refine AW.rseq ?_
                refine AWL.y rfl rfl (B rfl) (Yv.move rfl (E rfl rfl)) ?_
                refine AWL.y rfl rfl (B rfl) (Yv.quoN_u64 rfl (E rfl rfl) (E rfl rfl) (fun hg => by omega)) ?_
                refine AWL.y rfl rfl (B rfl) (Yv.convN_i64 rfl Try.underlying29 kd_3 (E rfl rfl) (fun hg => by omega)) ?_
                refine AWL.y rfl rfl (B rfl) (Yv.fieldBox rfl fo_24_1 (E rfl rfl)) ?_
                refine AWL.storeBox (i := 3) rfl rfl rfl ag_3 rfl (E rfl rfl) (E rfl rfl) rfl rfl (Nat.le_of_ble_eq_true rfl) ?_
                refine AWL.nil ?_
                refine AW.region ?_
                refine AWL.y rfl rfl (B rfl) (Yv.move rfl (E rfl rfl)) ?_
                refine AWL.y rfl rfl (B rfl) (Yv.move rfl (E rfl rfl)) ?_
                refine AWL.y rfl rfl (B rfl) (Yv.addN_u64 rfl (E rfl rfl) (E rfl rfl) (fun hg => by omega)) ?_
                refine AWL.y rfl rfl (B rfl) (Yv.move rfl (E rfl rfl)) ?_
                refine AWL.y rfl rfl (B rfl) (Yv.subN_u64 rfl (E rfl rfl) (E rfl rfl) (fun hg => by omega)) ?_
                refine AWL.retype (k := 197) (t' := .v (.int .u64 ((n - 1 : Nat) : Int))) rfl (fun w L u h => by rw [show ((n - 1 : Nat) : Int) = (n : Int) - 1 by omega]; exact h) ?_
                refine AWL.call rfl rfl (B rfl) rfl ce_62 (E rfl rfl) (evsC (E rfl rfl) (evsC (E rfl rfl) (evsC (E rfl rfl) evs0))) (S1 := (RS bm br b a A c row)) (S2 := _) rfl (values62 b a row bm br A c ws (o + 16) (n - 1) (by omega) (by omega) (by omega) (by omega) hrr) ?_
                rintro t198 S198 ⟨rfl, A198, c198, rfl⟩
                refine AWL.y rfl rfl (B rfl) (Yv.fieldBox rfl fo_24_3 (E rfl rfl)) ?_
                refine AWL.storeBox (i := 3) rfl rfl rfl ag_22 rfl (E rfl rfl) (E rfl rfl) rfl rfl (Nat.le_of_ble_eq_true rfl) ?_
                refine AWL.nil ?_
                exact ⟨((_, ⟨((wordAt b o) / 2 % 16), (IntKind.u64.wrap (wordAt b (o + 8) - 4194304)) / 16, [], (valsF row (wordsAt b (o + 16) (n - 1))).2⟩), (A198, c198)), body_clo hn h2f h5t h6g h7g, Sub.cons rfl rfl Sub.nil, rfl⟩
          ·
            try replace h5f := of_decide_eq_false h5f
            refine AW.region ?_
            refine AWL.y rfl rfl (B rfl) (Yv.move rfl (E rfl rfl)) ?_
            refine AWL.y rfl rfl (B rfl) (Yv.move rfl (E rfl rfl)) ?_
            refine AWL.y rfl rfl (B rfl) (Yv.addN_u64 rfl (E rfl rfl) (E rfl rfl) (fun hg => by omega)) ?_
            refine AWL.y rfl rfl (B rfl) (Yv.move rfl (E rfl rfl)) ?_
            refine AWL.call rfl rfl (B rfl) rfl ce_62 (E rfl rfl) (evsC (E rfl rfl) (evsC (E rfl rfl) (evsC (E rfl rfl) evs0))) (S1 := (RS bm br b a A c row)) (S2 := _) rfl (values62 b a row bm br A c ws (o + 8) n (by omega) (by omega) (by omega) (by omega) hrr) ?_
            rintro t111 S111 ⟨rfl, A111, c111, rfl⟩
            refine AWL.y rfl rfl (B rfl) (Yv.fieldBox rfl fo_24_3 (E rfl rfl)) ?_
            refine AWL.storeBox (i := 3) rfl rfl rfl ag_22 rfl (E rfl rfl) (E rfl rfl) rfl rfl (Nat.le_of_ble_eq_true rfl) ?_
            refine AWL.nil ?_
            exact ⟨((_, ⟨((wordAt b o) / 2 % 16), ((wordAt b o) / 256 % 65536), [], (valsF row (wordsAt b (o + 8) n)).2⟩), (A111, c111)), body_other hn h2f h5f, Sub.cons rfl rfl Sub.nil, rfl⟩
      ·
        rintro ⟨⟨row2, t2⟩, A2, c2⟩ hbd
        obtain ⟨hr2, hto⟩ := body_ok hb hws hwr.1 hwr.2 ho8 hol hrr hb1 hbd
        refine AW.rseqP rfl ?_
        refine AWP.two (i := 0) (j := 1) (by kernel_rfl) rfl rfl ?_ ?_
        ·
          refine AWL.y rfl rfl (B rfl) (Yv.loadBoxA rfl ag_24 (i := 3) rfl (E rfl rfl) rfl rfl) ?_
          refine AWL.nil ?_
          refine AWP.one (i := 1) (by kernel_rfl) rfl ?_
          refine AWL.y rfl rfl (B rfl) (Yv.loadBoxA rfl ag_24 (i := 3) rfl (E rfl rfl) rfl rfl) ?_
          refine AWL.nil ?_
          refine AWP.one (i := 2) (by kernel_rfl) rfl ?_
          refine AWL.callP rfl rfl (B rfl) rfl ce_29 (E rfl rfl) (evsC (E rfl rfl) evs0) (made29 t2 hto) (fun t S h => h) ?_
          refine AWL.nil ?_
          refine AWP.one (i := 3) (by kernel_rfl) rfl ?_
          refine AWL.storeBox (i := 3) rfl rfl rfl ag_24 rfl (E rfl rfl) (E rfl rfl) rfl rfl (Nat.le_of_ble_eq_true rfl) ?_
          refine AWL.nil ?_
          refine AWP.one (i := 4) (by kernel_rfl) rfl ?_
          refine AWL.y rfl rfl (B rfl) (Yv.assign rfl (E rfl rfl)) ?_
          refine AWL.nil ?_
          refine AWP.done (by kernel_rfl) ?_
          refine AW.ret (retI (.cellA (i := 3) rfl ag_24 rfl rfl rfl (.tmp rfl .nil)) ?_)
          exact ⟨t2, madeF t2, row2, A2, c2, _, rfl, rfl, thingR_some ho hb0 hb1 hbd⟩
        ·
          refine AWL.y rfl rfl (B rfl) (Yv.loadBoxA rfl ag_24 (i := 3) rfl (E rfl rfl) rfl rfl) ?_
          refine AWL.nil ?_
          refine AWP.two (i := 0) (j := 2) (by kernel_rfl) rfl rfl ?_ ?_
          ·
            refine AWL.y rfl rfl (B rfl) (Yv.loadBoxA rfl ag_24 (i := 3) rfl (E rfl rfl) rfl rfl) ?_
            refine AWL.nil ?_
            refine AWP.one (i := 2) (by kernel_rfl) rfl ?_
            refine AWL.callP rfl rfl (B rfl) rfl ce_29 (E rfl rfl) (evsC (E rfl rfl) evs0) (made29 t2 hto) (fun t S h => h) ?_
            refine AWL.nil ?_
            refine AWP.one (i := 3) (by kernel_rfl) rfl ?_
            refine AWL.storeBox (i := 3) rfl rfl rfl ag_24 rfl (E rfl rfl) (E rfl rfl) rfl rfl (Nat.le_of_ble_eq_true rfl) ?_
            refine AWL.nil ?_
            refine AWP.one (i := 4) (by kernel_rfl) rfl ?_
            refine AWL.y rfl rfl (B rfl) (Yv.assign rfl (E rfl rfl)) ?_
            refine AWL.nil ?_
            refine AWP.done (by kernel_rfl) ?_
            refine AW.ret (retI (.cellA (i := 3) rfl ag_24 rfl rfl rfl (.tmp rfl .nil)) ?_)
            exact ⟨t2, madeF t2, row2, A2, c2, _, rfl, rfl, thingR_some ho hb0 hb1 hbd⟩
          ·
            refine AWL.callP rfl rfl (B rfl) rfl ce_29 (E rfl rfl) (evsC (E rfl rfl) evs0) (made29 t2 hto) (fun t S h => h) ?_
            refine AWL.nil ?_
            refine AWP.one (i := 0) (by kernel_rfl) rfl ?_
            refine AWL.y rfl rfl (B rfl) (Yv.loadBoxA rfl ag_24 (i := 3) rfl (E rfl rfl) rfl rfl) ?_
            refine AWL.nil ?_
            refine AWP.one (i := 3) (by kernel_rfl) rfl ?_
            refine AWL.storeBox (i := 3) rfl rfl rfl ag_24 rfl (E rfl rfl) (E rfl rfl) rfl rfl (Nat.le_of_ble_eq_true rfl) ?_
            refine AWL.nil ?_
            refine AWP.one (i := 4) (by kernel_rfl) rfl ?_
            refine AWL.y rfl rfl (B rfl) (Yv.assign rfl (E rfl rfl)) ?_
            refine AWL.nil ?_
            refine AWP.done (by kernel_rfl) ?_
            refine AW.ret (retI (.cellA (i := 3) rfl ag_24 rfl rfl rfl (.tmp rfl .nil)) ?_)
            exact ⟨t2, madeF t2, row2, A2, c2, _, rfl, rfl, thingR_some ho hb0 hb1 hbd⟩

end Go.Proofs.Ytbndnmmceccbkaa
