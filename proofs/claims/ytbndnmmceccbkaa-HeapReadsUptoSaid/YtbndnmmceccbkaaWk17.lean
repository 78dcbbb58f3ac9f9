/-
  CONTRACTS of the heap package: graphs read into rows; walked by program.
-/
import Derived.Test.YtbndnmmceccbkaaWk9
import Derived.Test.YtbndnmmceccbkaaSees
import Derived.Test.YtbndnmmceccbkaaFacts2
namespace Go.Proofs.Ytbndnmmceccbkaa
open Go Go.RowKit
set_option linter.unusedVariables false

set_option maxHeartbeats 400000 in
theorem values62R (b : List UInt8) (a : Int) (row : List Int) (bm br : Nat) (A : Option Addr) (c : Nat) (ws : List Int) (fr n : Nat) (hb : b.length ≤ 549755813888) (hws : ws.length ≤ 549755813888) (h8 : fr % 8 = 0) (hn : fr + 8 * n ≤ b.length) (hrr : RowR b ws row) :
    ACalls Try.prog 62 [.v (vp br), .v (.int .u64 (fr : Int)), .v (.int .u64 (n : Int))] (RS bm br b a A c row) (fun t_ S => ∃ Ao co A' c', t_ = .v (.slice Ao n co) ∧ S = RS bm br b a A' c' (valsF row (wordsAt b fr n)).1 ++ [.row Ao n co 54 2 ((valsF row (wordsAt b fr n)).2.flatMap refCells)]) := by
  have hwl := wordsAt_len b fr n
  have hsrc := src_words (b := b) (ws := ws) h8 hn
  refine ACalls.intro Try.func62 rfl Try.ntmps62 (Nat.le_of_ble_eq_true rfl) rfl fun X w0 => ?_
  refine AW.rseq ?_
  refine AWL.y rfl rfl (B rfl) (Yv.assign rfl (E rfl rfl)) ?_
  refine AWL.nil ?_
  refine AW.rseq ?_
  refine AWL.y rfl rfl (B rfl) (Yv.assign rfl (E rfl rfl)) ?_
  refine AWL.nil ?_
  refine AW.rowNil 54 2 ?_
  refine AW.seq ?_
  refine AW.rseq ?_
  refine AWL.y rfl rfl (B rfl) (Yv.move rfl (E rfl rfl)) ?_
  refine AWL.y rfl rfl (B rfl) (Yv.move rfl (E rfl rfl)) ?_
  refine AWL.nil ?_
  refine AW.block ?_
  refine AW.loop5 (fun (j : Nat) (A1 : Option Addr) (c1 : Nat) (Ao : Option Addr) (co : Nat) => [(0, true, .v (vp br)), (1, true, .v (.int .u64 (fr : Int))), (7, true, .v (.slice Ao j co)), (9, true, .v (.int .u64 (n : Int))), (10, true, .v (.int .u64 (j : Int)))]) (fun (j : Nat) (A1 : Option Addr) (c1 : Nat) (Ao : Option Addr) (co : Nat) => ((RS bm br b a A1 c1 (valsF row ((wordsAt b fr n).take j)).1) ++ [.row Ao j co 54 2 ((valsF row ((wordsAt b fr n).take j)).2.flatMap refCells)])) (fun (j : Nat) (A1 : Option Addr) (c1 : Nat) (Ao : Option Addr) (co : Nat) => j ≤ n) (fun (j : Nat) (A1 : Option Addr) (c1 : Nat) (Ao : Option Addr) (co : Nat) => n - j) 0 A c none 0 ?_ ?_ ?_ ?_
  · exact Nat.zero_le _
  · exact (Sub.cons rfl rfl (Sub.cons rfl rfl (Sub.cons rfl rfl (Sub.cons rfl rfl (Sub.cons rfl rfl Sub.nil)))))
  · rfl
  ·
    intro j A1 c1 Ao co hinv
    have hok := valsF_ok hrr (l := (wordsAt b fr n).take j) (fun x hx => hsrc x (List.mem_of_mem_take hx))
    have hlen := hok.len
    refine AW.rseq ?_
    refine AWL.y rfl rfl (B rfl) (Yv.lss rfl (E rfl rfl) (E rfl rfl)) ?_
    refine AWL.nil ?_
    refine AW.seq ?_
    refine AW.cond rfl (fun h0t => ?_) (fun h0f => ?_)
    ·
      try replace h0t := of_decide_eq_true h0t
      have hwj := words_at b fr n j (by omega)
      refine AW.skip ?_
      refine AW.seq ?_
      refine AW.block ?_
      refine AW.rseq ?_
      refine AWL.y rfl rfl (B rfl) (Yv.move rfl (E rfl rfl)) ?_
      refine AWL.y rfl rfl (B rfl) (Yv.assign rfl (E rfl rfl)) ?_
      refine AWL.nil ?_
      refine AW.region ?_
      refine AWL.y rfl rfl (B rfl) (Yv.move rfl (E rfl rfl)) ?_
      refine AWL.y rfl rfl (B rfl) (Yv.move rfl (E rfl rfl)) ?_
      refine AWL.y rfl rfl (B rfl) (Yv.move rfl (E rfl rfl)) ?_
      refine AWL.y rfl rfl (B rfl) (Yv.nilChk rfl (E rfl rfl)) ?_
      refine AWL.y rfl rfl (B rfl) (Yv.fieldBox rfl fo_84_0 (E rfl rfl)) ?_
      refine AWL.y rfl rfl (B rfl) (Yv.loadBox rfl ag_40 (i := 1) rfl (E rfl rfl) rfl) ?_
      refine AWL.y rfl rfl (B rfl) (Yv.move rfl (E rfl rfl)) ?_
      refine AWL.y rfl rfl (B rfl) (Yv.move rfl (E rfl rfl)) ?_
      refine AWL.y rfl rfl (B rfl) (Yv.mulN_u64 rfl (E rfl rfl) (E rfl rfl) (fun hg => by omega)) ?_
      refine AWL.y rfl rfl (B rfl) (Yv.addN_u64 rfl (E rfl rfl) (E rfl rfl) (fun hg => by omega)) ?_
      refine AWL.callP rfl rfl (B rfl) rfl ce_61 (E rfl rfl) (evsC (E rfl rfl) (evsC (E rfl rfl) evs0)) (word61 b (fr + 8 * j) (by omega) (by omega)) (fun t S h => h) ?_
      refine AWL.call rfl rfl (B rfl) rfl ce_53 (E rfl rfl) (evsC (E rfl rfl) (evsC (E rfl rfl) evs0)) (S1 := (RS bm br b a A1 c1 (valsF row ((wordsAt b fr n).take j)).1)) (S2 := _) rfl (value53 b a (valsF row ((wordsAt b fr n).take j)).1 bm br A1 c1 (wordAt b (fr + 8 * j)) (wordAt_range b _).1 (wordAt_range b _).2 (by omega)) ?_
      rintro t24 S24 ⟨rfl, A24, c24, E24, rfl⟩
      refine AWL.dropAt 3 ?_
      refine AWL.buildSliceE rfl rfl (B rfl) rfl el_22 (B rfl) rfl (evsC (E rfl rfl) evs0) (Nat.le_of_ble_eq_true rfl) rfl rfl ?_
      refine AWL.appendRow (i := 3) rfl rfl (B rfl) rfl el_22 (B rfl) rfl (E rfl rfl) (SrcT.sl so_22 (B rfl) (E rfl rfl) rfl) (by unfold maxLen; omega) (by omega) (fun A26 c26 => ?_)
      refine AWL.y rfl rfl (B rfl) (Yv.assign rfl (E rfl rfl)) ?_
      refine AWL.nil ?_
      refine AW.region ?_
      refine AWL.y rfl rfl (B rfl) (Yv.addN_u64 rfl (E rfl rfl) (E rfl rfl) (fun hg => by omega)) ?_
      refine AWL.y rfl rfl (B rfl) (Yv.move rfl (E rfl rfl)) ?_
      refine AWL.nil ?_
      refine ⟨j + 1, A24, c24, A26, c26, by omega, by omega, Sub.cons rfl rfl (Sub.cons rfl rfl (Sub.cons rfl rfl (Sub.cons rfl rfl (Sub.cons rfl (by simp) Sub.nil)))), ?_⟩
      rw [vals_take (by omega), hwj, out_flat]
      rfl
    ·
      try replace h0f := of_decide_eq_false h0f
      refine AW.exit ?_
      refine AW.rseq ?_
      refine AWL.y rfl rfl (B rfl) (Yv.move rfl (E rfl rfl)) ?_
      refine AWL.y rfl rfl (B rfl) (Yv.assign rfl (E rfl rfl)) ?_
      refine AWL.nil ?_
      refine AW.ret (retI (.tmp rfl .nil) ?_)
      have hj : j = n := by omega
      subst hj
      rw [List.take_of_length_le (by omega)]
      exact ⟨Ao, co, A1, c1, rfl, rfl⟩

set_option maxHeartbeats 1000000 in
theorem thing54R (b : List UInt8) (a : Int) (row : List Int) (bm br : Nat) (A : Option Addr) (c : Nat) (ws : List Int) (x : Int) (h0 : 0 ≤ x) (h1 : x ≤ 18446744073709551615) (hb : b.length ≤ 1099511627) (hws : ws.length ≤ 1099511627) (ha0 : 0 ≤ a) (ha1 : a + b.length ≤ 9223372036854775808) (ha8 : a % 8 = 0) (hrr : RowR b ws row) :
    ACalls Try.prog 54 [.v (vp br), .v (.int .u64 x)] (RS bm br b a A c row) (fun t_ S => ∃ (f : Fr) (ok : Bool) (row' : List Int) (A' : Option Addr) (c' : Nat) (E : Ent), t_ = .tup [.agg (frCells f), .v (.bool ok)] ∧ S = RS bm br b a A' c' row' ++ [E, frRow f] ∧ thingR b a row x = if ok = true then some (row', f.t) else none) := by
  have hrl := hrr.len
  refine ACalls.intro Try.func54 rfl Try.ntmps54 (Nat.le_of_ble_eq_true rfl) rfl fun X w0 => ?_
  refine AW.rseq ?_
  refine AWL.allocOp rfl rfl (B rfl) rfl zc_24 (fun b4 => ?_)
  refine AWL.y rfl rfl (B rfl) (Yv.assign rfl (E rfl rfl)) ?_
  refine AWL.nil ?_
  refine AW.rowNil 54 2 ?_
  refine AW.rseq ?_
  refine AWL.y rfl rfl (B rfl) (Yv.move rfl (E rfl rfl)) ?_
  refine AWL.y rfl rfl (B rfl) (Yv.nilChk rfl (E rfl rfl)) ?_
  refine AWL.y rfl rfl (B rfl) (Yv.fieldBox rfl fo_84_0 (E rfl rfl)) ?_
  refine AWL.y rfl rfl (B rfl) (Yv.loadBox rfl ag_40 (i := 1) rfl (E rfl rfl) rfl) ?_
  refine AWL.y rfl rfl (B rfl) (Yv.lenSl rfl so_40 (B rfl) (E rfl rfl) len_u8s) ?_
  refine AWL.y rfl rfl (B rfl) (Yv.convN_u64 rfl Try.underlying3 kd_29 (E rfl rfl) (fun hg => by omega)) ?_
  refine AWL.y rfl rfl (B rfl) (Yv.assign rfl (E rfl rfl)) ?_
  refine AWL.nil ?_
  refine AW.seq ?_
  refine AW.rseq ?_
  refine AWL.y rfl rfl (B rfl) (Yv.move rfl (E rfl rfl)) ?_
  refine AWL.y rfl rfl (B rfl) (Yv.remN rfl (E rfl rfl) (E rfl rfl) (fun hg => by omega)) ?_
  refine AWL.y rfl rfl (B rfl) (Yv.neq rfl (E rfl rfl) (E rfl rfl)) ?_
  refine AWL.y rfl rfl (B rfl) (Yv.move rfl (E rfl rfl)) ?_
  refine AWL.ygF rfl rfl rfl rfl (B rfl) (Yv.move rfl (E rfl rfl)) ?_
  refine AWL.ygF rfl rfl rfl rfl (B rfl) (Yv.move rfl (E rfl rfl)) ?_
  refine AWL.ygF rfl rfl rfl rfl (B rfl) (Yv.nilChk rfl (Eg rfl rfl id)) ?_
  refine AWL.ygF rfl rfl rfl rfl (B rfl) (Yv.fieldBox rfl fo_84_1 (Eg rfl rfl id)) ?_
  refine AWL.ygF rfl rfl rfl rfl (B rfl) (Yv.loadBox rfl ag_29 (i := 1) rfl (Eg rfl rfl id) rfl) ?_
  refine AWL.ygF rfl rfl rfl rfl (B rfl) (Yv.lss rfl (Eg rfl rfl id) (Eg rfl rfl id)) ?_
  refine AWL.y rfl rfl (B rfl) (Yv.pickOr (t := .const (.bool true)) rfl (E rfl rfl) (Eg rfl rfl id)) ?_
  refine AWL.y rfl rfl (B rfl) (Yv.move rfl (E rfl rfl)) ?_
  refine AWL.ygF rfl rfl rfl rfl (B rfl) (Yv.move rfl (E rfl rfl)) ?_
  refine AWL.ygF rfl rfl rfl rfl (B rfl) (Yv.move rfl (E rfl rfl)) ?_
  refine AWL.ygF rfl rfl rfl rfl (B rfl) (Yv.nilChk rfl (Eg rfl rfl id)) ?_
  refine AWL.ygF rfl rfl rfl rfl (B rfl) (Yv.fieldBox rfl fo_84_1 (Eg rfl rfl id)) ?_
  refine AWL.ygF rfl rfl rfl rfl (B rfl) (Yv.loadBox rfl ag_29 (i := 1) rfl (Eg rfl rfl id) rfl) ?_
  refine AWL.ygF rfl rfl rfl rfl (B rfl) (Yv.subN_u64 rfl (Eg rfl rfl id) (Eg rfl rfl id) (fun hg => by first | omega | (simp only [Bool.and_eq_true, Bool.or_eq_false_iff, Bool.not_eq_true', Bool.not_eq_false', decide_eq_true_eq, decide_eq_false_iff_not] at hg; omega))) ?_
  refine AWL.ygF rfl rfl rfl rfl (B rfl) (Yv.move rfl (E rfl rfl)) ?_
  refine AWL.ygF rfl rfl rfl rfl (B rfl) (Yv.gtr rfl (Eg rfl rfl id) (Eg rfl rfl id)) ?_
  refine AWL.y rfl rfl (B rfl) (Yv.pickOr (t := .const (.bool true)) rfl (E rfl rfl) (Eg rfl rfl id)) ?_
  refine AWL.y rfl rfl (B rfl) (Yv.move rfl (E rfl rfl)) ?_
  refine AWL.ygF rfl rfl rfl rfl (B rfl) (Yv.move rfl (E rfl rfl)) ?_
  refine AWL.ygF rfl rfl rfl rfl (B rfl) (Yv.move rfl (E rfl rfl)) ?_
  refine AWL.ygF rfl rfl rfl rfl (B rfl) (Yv.move rfl (E rfl rfl)) ?_
  refine AWL.ygF rfl rfl rfl rfl (B rfl) (Yv.nilChk rfl (Eg rfl rfl id)) ?_
  refine AWL.ygF rfl rfl rfl rfl (B rfl) (Yv.fieldBox rfl fo_84_1 (Eg rfl rfl id)) ?_
  refine AWL.ygF rfl rfl rfl rfl (B rfl) (Yv.loadBox rfl ag_29 (i := 1) rfl (Eg rfl rfl id) rfl) ?_
  refine AWL.ygF rfl rfl rfl rfl (B rfl) (Yv.subN_u64 rfl (Eg rfl rfl id) (Eg rfl rfl id) (fun hg => by first | omega | (simp only [Bool.and_eq_true, Bool.or_eq_false_iff, Bool.not_eq_true', Bool.not_eq_false', decide_eq_true_eq, decide_eq_false_iff_not] at hg; omega))) ?_
  refine AWL.ygF rfl rfl rfl rfl (B rfl) (Yv.subN_u64 rfl (Eg rfl rfl id) (Eg rfl rfl id) (fun hg => by first | omega | (simp only [Bool.and_eq_true, Bool.or_eq_false_iff, Bool.not_eq_true', Bool.not_eq_false', decide_eq_true_eq, decide_eq_false_iff_not] at hg; omega))) ?_
  refine AWL.ygF rfl rfl rfl rfl (B rfl) (Yv.lss rfl (Eg rfl rfl id) (E rfl rfl)) ?_
  refine AWL.y rfl rfl (B rfl) (Yv.pickOr (t := .const (.bool true)) rfl (E rfl rfl) (Eg rfl rfl id)) ?_
  refine AWL.nil ?_
  refine AW.cond rfl (fun h0t => ?_) (fun h0f => ?_)
  ·
    try replace h0t := of_decide_eq_true h0t
    refine AW.rseq ?_
    refine AWL.y rfl rfl (B rfl) (Yv.loadBoxA rfl ag_24 (i := 3) rfl (E rfl rfl) rfl rfl) ?_
    refine AWL.storeBox (i := 3) rfl rfl rfl ag_24 rfl (E rfl rfl) (E rfl rfl) rfl rfl (Nat.le_of_ble_eq_true rfl) ?_
    refine AWL.y rfl rfl (B rfl) (Yv.assign rfl (E rfl rfl)) ?_
    refine AWL.nil ?_
    refine AW.ret (retI (.cellA (i := 3) rfl ag_24 rfl rfl rfl (.tmp rfl .nil)) ?_)
    exact ⟨noRow ⟨0, 0, [], []⟩, false, row, A, c, _, rfl, rfl, by rw [thingR_bad0 h0t]; rfl⟩
  ·
    try replace h0f := of_decide_eq_false h0f
    simp only [Bool.or_eq_true, Bool.and_eq_true, Bool.or_eq_false_iff, Bool.and_eq_false_iff, Bool.not_eq_true', Bool.not_eq_false', decide_eq_true_eq, decide_eq_false_iff_not, Decidable.not_not] at h0f
    have hb0 : bad0 b a x = false := by simp only [bad0, Bool.or_eq_false_iff, Bool.not_eq_false', decide_eq_true_eq, decide_eq_false_iff_not]; exact h0f
    obtain ⟨o, ho⟩ : ∃ o : Nat, x - a = (o : Int) := ⟨(x - a).toNat, by omega⟩
    have ho8 : o % 8 = 0 := by omega
    have hol : o + 8 ≤ b.length := by omega
    have hwr := wordAt_range b o
    obtain ⟨n, hn⟩ : ∃ n : Nat, (wordAt b o) / 16777216 = n := ⟨((wordAt b o) / 16777216).toNat, by omega⟩
    have hsr := span_range ((wordAt b o) / 2 % 16) n (by omega)
    refine AW.skip ?_
    refine AW.rseq ?_
    refine AWL.y rfl rfl (B rfl) (Yv.move rfl (E rfl rfl)) ?_
    refine AWL.y rfl rfl (B rfl) (Yv.move rfl (E rfl rfl)) ?_
    refine AWL.y rfl rfl (B rfl) (Yv.nilChk rfl (E rfl rfl)) ?_
    refine AWL.y rfl rfl (B rfl) (Yv.fieldBox rfl fo_84_1 (E rfl rfl)) ?_
    refine AWL.y rfl rfl (B rfl) (Yv.loadBox rfl ag_29 (i := 1) rfl (E rfl rfl) rfl) ?_
    refine AWL.y rfl rfl (B rfl) (Yv.subN_u64 rfl (E rfl rfl) (E rfl rfl) (fun hg => by omega)) ?_
    refine AWL.y rfl rfl (B rfl) (Yv.assign rfl (E rfl rfl)) ?_
    refine AWL.nil ?_
    refine AW.retype (k := 7) (t' := .v (.int .u64 (o : Int))) rfl (fun w L u h => by rw [← ho]; exact h) ?_
    refine AW.rseq ?_
    refine AWL.y rfl rfl (B rfl) (Yv.move rfl (E rfl rfl)) ?_
    refine AWL.y rfl rfl (B rfl) (Yv.nilChk rfl (E rfl rfl)) ?_
    refine AWL.y rfl rfl (B rfl) (Yv.fieldBox rfl fo_84_0 (E rfl rfl)) ?_
    refine AWL.y rfl rfl (B rfl) (Yv.loadBox rfl ag_40 (i := 1) rfl (E rfl rfl) rfl) ?_
    refine AWL.y rfl rfl (B rfl) (Yv.move rfl (E rfl rfl)) ?_
    refine AWL.callP rfl rfl (B rfl) rfl ce_61 (E rfl rfl) (evsC (E rfl rfl) (evsC (E rfl rfl) evs0)) (word61 b o (by omega) (by omega)) (fun t S h => h) ?_
    refine AWL.y rfl rfl (B rfl) (Yv.assign rfl (E rfl rfl)) ?_
    refine AWL.nil ?_
    refine AW.retype (k := 8) (t' := .v (.int .u64 (wordAt b o))) rfl (fun w L u h => h) ?_
    refine AW.rseq ?_
    refine AWL.y rfl rfl (B rfl) (Yv.move rfl (E rfl rfl)) ?_
    refine AWL.y rfl rfl (B rfl) (Yv.shrC 16777216 (by decide) (by decide) (by decide) rfl (E rfl rfl) (E rfl rfl)) ?_
    refine AWL.y rfl rfl (B rfl) (Yv.assign rfl (E rfl rfl)) ?_
    refine AWL.nil ?_
    refine AW.retype (k := 9) (t' := .v (.int .u64 (n : Int))) rfl (fun w L u h => by rw [← hn]; exact h) ?_
    refine AW.rseq ?_
    refine AWL.y rfl rfl (B rfl) (Yv.move rfl (E rfl rfl)) ?_
    refine AWL.y rfl rfl (B rfl) (Yv.shrC 2 (by decide) (by decide) (by decide) rfl (E rfl rfl) (E rfl rfl)) ?_
    refine AWL.y rfl rfl (B rfl) (Yv.andN_u64 4 16 (by decide) (by decide) (by decide) rfl (E rfl rfl) (E rfl rfl) (fun hg => ⟨by omega, by omega⟩)) ?_
    refine AWL.y rfl rfl (B rfl) (Yv.convN_i64 rfl Try.underlying29 kd_3 (E rfl rfl) (fun hg => by omega)) ?_
    refine AWL.y rfl rfl (B rfl) (Yv.move rfl (E rfl rfl)) ?_
    refine AWL.y rfl rfl (B rfl) (Yv.shrC 256 (by decide) (by decide) (by decide) rfl (E rfl rfl) (E rfl rfl)) ?_
    refine AWL.y rfl rfl (B rfl) (Yv.andN_u64 16 65536 (by decide) (by decide) (by decide) rfl (E rfl rfl) (E rfl rfl) (fun hg => ⟨by omega, by omega⟩)) ?_
    refine AWL.y rfl rfl (B rfl) (Yv.convN_i64 rfl Try.underlying29 kd_3 (E rfl rfl) (fun hg => by omega)) ?_
    refine AWL.y rfl rfl (B rfl) (Yv.fieldBox rfl fo_24_0 (E rfl rfl)) ?_
    refine AWL.storeBox (i := 3) rfl rfl rfl ag_3 rfl (E rfl rfl) (E rfl rfl) rfl rfl (Nat.le_of_ble_eq_true rfl) ?_
    refine AWL.y rfl rfl (B rfl) (Yv.fieldBox rfl fo_24_1 (E rfl rfl)) ?_
    refine AWL.storeBox (i := 3) rfl rfl rfl ag_3 rfl (E rfl rfl) (E rfl rfl) rfl rfl (Nat.le_of_ble_eq_true rfl) ?_
    refine AWL.nil ?_
    refine AW.seq ?_
    refine AW.rseq ?_
    refine AWL.y rfl rfl (B rfl) (Yv.move rfl (E rfl rfl)) ?_
    refine AWL.y rfl rfl (B rfl) (Yv.andN_u64 1 2 (by decide) (by decide) (by decide) rfl (E rfl rfl) (E rfl rfl) (fun hg => ⟨by omega, by omega⟩)) ?_
    refine AWL.y rfl rfl (B rfl) (Yv.eql rfl (E rfl rfl) (E rfl rfl)) ?_
    refine AWL.y rfl rfl (B rfl) (Yv.move rfl (E rfl rfl)) ?_
    refine AWL.ygF rfl rfl rfl rfl (B rfl) (Yv.move rfl (E rfl rfl)) ?_
    refine AWL.ygF rfl rfl rfl rfl (B rfl) (Yv.bits rfl rfl (Eg rfl rfl id) (E rfl rfl)) ?_
    refine AWL.ygF rfl rfl rfl rfl (B rfl) (Yv.neq rfl (Eg rfl rfl id) (E rfl rfl)) ?_
    refine AWL.y rfl rfl (B rfl) (Yv.pickOr (t := .const (.bool true)) rfl (E rfl rfl) (Eg rfl rfl id)) ?_
    refine AWL.y rfl rfl (B rfl) (Yv.move rfl (E rfl rfl)) ?_
    refine AWL.ygF rfl rfl rfl rfl (B rfl) (Yv.fieldBox rfl fo_24_0 (E rfl rfl)) ?_
    refine AWL.ygF rfl rfl rfl rfl (B rfl) (Yv.loadBox rfl ag_3 (i := 3) rfl (Eg rfl rfl id) rfl) ?_
    refine AWL.ygF rfl rfl rfl rfl (B rfl) (Yv.lss rfl (Eg rfl rfl id) (E rfl rfl)) ?_
    refine AWL.y rfl rfl (B rfl) (Yv.pickOr (t := .const (.bool true)) rfl (E rfl rfl) (Eg rfl rfl id)) ?_
    refine AWL.y rfl rfl (B rfl) (Yv.move rfl (E rfl rfl)) ?_
    refine AWL.ygF rfl rfl rfl rfl (B rfl) (Yv.fieldBox rfl fo_24_0 (E rfl rfl)) ?_
    refine AWL.ygF rfl rfl rfl rfl (B rfl) (Yv.loadBox rfl ag_3 (i := 3) rfl (Eg rfl rfl id) rfl) ?_
    refine AWL.ygF rfl rfl rfl rfl (B rfl) (Yv.gtr rfl (Eg rfl rfl id) (E rfl rfl)) ?_
    refine AWL.y rfl rfl (B rfl) (Yv.pickOr (t := .const (.bool true)) rfl (E rfl rfl) (Eg rfl rfl id)) ?_
    refine AWL.y rfl rfl (B rfl) (Yv.move rfl (E rfl rfl)) ?_
    refine AWL.ygF rfl rfl rfl rfl (B rfl) (Yv.fieldBox rfl fo_24_0 (E rfl rfl)) ?_
    refine AWL.ygF rfl rfl rfl rfl (B rfl) (Yv.loadBox rfl ag_3 (i := 3) rfl (Eg rfl rfl id) rfl) ?_
    refine AWL.ygF rfl rfl rfl rfl (B rfl) (Yv.move rfl (E rfl rfl)) ?_
    refine AWL.ygF rfl rfl rfl rfl (B rfl) (Yv.convN_i64 rfl Try.underlying29 kd_2 (Eg rfl rfl id) (fun hg => by first | omega | (simp only [Bool.and_eq_true, Bool.or_eq_false_iff, Bool.not_eq_true', Bool.not_eq_false', decide_eq_true_eq, decide_eq_false_iff_not] at hg; omega))) ?_
    refine AWL.callPgF rfl rfl rfl rfl (B rfl) rfl ce_30 (E rfl rfl) (evsC (Eg rfl rfl id) (evsC (Eg rfl rfl id) evs0)) (fun hg => span30 ((wordAt b o) / 2 % 16) n (by omega) (by omega)) (fun t S h => h) ?_
    refine AWL.ygF rfl rfl rfl rfl (B rfl) (Yv.convN_u64 rfl Try.underlying2 kd_29 (Eg rfl rfl id) (fun hg => by first | omega | (simp only [Bool.and_eq_true, Bool.or_eq_false_iff, Bool.not_eq_true', Bool.not_eq_false', decide_eq_true_eq, decide_eq_false_iff_not] at hg; omega))) ?_
    refine AWL.ygF rfl rfl rfl rfl (B rfl) (Yv.move rfl (E rfl rfl)) ?_
    refine AWL.ygF rfl rfl rfl rfl (B rfl) (Yv.move rfl (E rfl rfl)) ?_
    refine AWL.ygF rfl rfl rfl rfl (B rfl) (Yv.subN_u64 rfl (Eg rfl rfl id) (Eg rfl rfl id) (fun hg => by first | omega | (simp only [Bool.and_eq_true, Bool.or_eq_false_iff, Bool.not_eq_true', Bool.not_eq_false', decide_eq_true_eq, decide_eq_false_iff_not] at hg; omega))) ?_
    refine AWL.ygF rfl rfl rfl rfl (B rfl) (Yv.gtr rfl (Eg rfl rfl id) (Eg rfl rfl id)) ?_
    refine AWL.y rfl rfl (B rfl) (Yv.pickOr (t := .const (.bool true)) rfl (E rfl rfl) (Eg rfl rfl id)) ?_
    refine AWL.nil ?_
    refine AW.cond rfl (fun h1t => ?_) (fun h1f => ?_)
    ·
      try replace h1t := of_decide_eq_true h1t
      rw [← hn] at h1t
      refine AW.rseq ?_
      refine AWL.y rfl rfl (B rfl) (Yv.loadBoxA rfl ag_24 (i := 3) rfl (E rfl rfl) rfl rfl) ?_
      refine AWL.storeBox (i := 3) rfl rfl rfl ag_24 rfl (E rfl rfl) (E rfl rfl) rfl rfl (Nat.le_of_ble_eq_true rfl) ?_
      refine AWL.y rfl rfl (B rfl) (Yv.assign rfl (E rfl rfl)) ?_
      refine AWL.nil ?_
      refine AW.ret (retI (.cellA (i := 3) rfl ag_24 rfl rfl rfl (.tmp rfl .nil)) ?_)
      exact ⟨noRow ⟨((wordAt b o) / 2 % 16), ((wordAt b o) / 256 % 65536), [], []⟩, false, row, A, c, _, rfl, rfl, by rw [thingR_bad1 ho hb0 h1t]; rfl⟩
    ·
      try replace h1f := of_decide_eq_false h1f
      have hb1 : bad1 (wordAt b o) (b.length - o) = false := by unfold bad1; rw [hn]; exact h1f
      simp only [Bool.or_eq_true, Bool.and_eq_true, Bool.or_eq_false_iff, Bool.and_eq_false_iff, Bool.not_eq_true', Bool.not_eq_false', decide_eq_true_eq, decide_eq_false_iff_not, Decidable.not_not] at h1f
      refine AW.skip ?_
      refine AW.mid (α := (List Int × Fr) × (Option Addr × Nat)) (fun q => [(4, true, .v (vp b4))]) (fun q => RS bm br b a q.2.1 q.2.2 q.1.1 ++ [.box b4 24 (frCells q.1.2), frRow q.1.2]) (fun q => body b o (wordAt b o) row = some (q.1.1, q.1.2.t)) ?_ ?_
      ·
        refine AW.block ?_
        refine AW.rseq ?_
        refine AWL.y rfl rfl (B rfl) (Yv.fieldBox rfl fo_24_0 (E rfl rfl)) ?_
        refine AWL.y rfl rfl (B rfl) (Yv.loadBox rfl ag_3 (i := 3) rfl (E rfl rfl) rfl) ?_
        refine AWL.callP rfl rfl (B rfl) rfl ce_55 (E rfl rfl) (evsC (E rfl rfl) evs0) (bytes55 ((wordAt b o) / 2 % 16)) (fun t S h => h) ?_
        refine AWL.y rfl rfl (B rfl) (Yv.assign rfl (E rfl rfl)) ?_
        refine AWL.nil ?_
        refine AW.cond rfl (fun h2t => ?_) (fun h2f => ?_)
        ·
          try replace h2t := of_decide_eq_true h2t
          have hsp := span_bytes (n : Int) h2t
          have hzl : (zsOf b o n ((wordAt b o) / 2 % 16)).length ≤ b.length := by unfold zsOf; rw [List.length_take, List.length_drop]; omega
          refine AW.rseq ?_
          refine AWL.y rfl rfl (B rfl) (Yv.move rfl (E rfl rfl)) ?_
          refine AWL.y rfl rfl (B rfl) (Yv.nilChk rfl (E rfl rfl)) ?_
          refine AWL.y rfl rfl (B rfl) (Yv.fieldBox rfl fo_84_0 (E rfl rfl)) ?_
          refine AWL.y rfl rfl (B rfl) (Yv.loadBox rfl ag_40 (i := 1) rfl (E rfl rfl) rfl) ?_
          refine AWL.y rfl rfl (B rfl) (Yv.move rfl (E rfl rfl)) ?_
          refine AWL.y rfl rfl (B rfl) (Yv.addN_u64 rfl (E rfl rfl) (E rfl rfl) (fun hg => by omega)) ?_
          refine AWL.y rfl rfl (B rfl) (Yv.move rfl (E rfl rfl)) ?_
          refine AWL.y rfl rfl (B rfl) (Yv.addN_u64 rfl (E rfl rfl) (E rfl rfl) (fun hg => by omega)) ?_
          refine AWL.y rfl rfl (B rfl) (Yv.move rfl (E rfl rfl)) ?_
          refine AWL.y rfl rfl (B rfl) (Yv.addN_u64 rfl (E rfl rfl) (E rfl rfl) (fun hg => by omega)) ?_
          refine AWL.y rfl rfl (B rfl) (Yv.sliceMap rfl ss_40 (E rfl rfl) (Bound.some_ (j := o + 8) (E rfl rfl) (fun hg => by omega)) (Bound.some_ (j := o + 8 + n) (E rfl rfl) (fun hg => by omega)) (fun hg => ⟨by omega, by omega⟩)) ?_
          refine AWL.y rfl rfl (B rfl) (Yv.bytesStr rfl by_40 st_9 (E rfl rfl)) ?_
          refine AWL.y rfl rfl (B rfl) (Yv.fieldBox rfl fo_24_2 (E rfl rfl)) ?_
          refine AWL.storeBox (i := 3) rfl rfl rfl ag_9 rfl (E rfl rfl) (E rfl rfl) rfl rfl (Nat.le_of_ble_eq_true rfl) ?_
          refine AWL.nil ?_
          refine AW.seq ?_
          refine AW.rseqQ rfl (by kernel_rfl) ?_
          refine AWQ.y rfl rfl (B rfl) (Yv.move rfl (E rfl rfl)) ?_
          refine AWQ.y rfl rfl (B rfl) (Yv.nilChk rfl (E rfl rfl)) ?_
          refine AWQ.y rfl rfl (B rfl) (Yv.fieldBox rfl fo_84_0 (E rfl rfl)) ?_
          refine AWQ.y rfl rfl (B rfl) (Yv.loadBox rfl ag_40 (i := 1) rfl (E rfl rfl) rfl) ?_
          refine AWQ.y rfl rfl (B rfl) (Yv.move rfl (E rfl rfl)) ?_
          refine AWQ.y rfl rfl (B rfl) (Yv.addN_u64 rfl (E rfl rfl) (E rfl rfl) (fun hg => by omega)) ?_
          refine AWQ.y rfl rfl (B rfl) (Yv.move rfl (E rfl rfl)) ?_
          refine AWQ.y rfl rfl (B rfl) (Yv.addN_u64 rfl (E rfl rfl) (E rfl rfl) (fun hg => by omega)) ?_
          refine AWQ.y rfl rfl (B rfl) (Yv.move rfl (E rfl rfl)) ?_
          refine AWQ.y rfl rfl (B rfl) (Yv.fieldBox rfl fo_24_0 (E rfl rfl)) ?_
          refine AWQ.y rfl rfl (B rfl) (Yv.loadBox rfl ag_3 (i := 3) rfl (E rfl rfl) rfl) ?_
          refine AWQ.y rfl rfl (B rfl) (Yv.move rfl (E rfl rfl)) ?_
          refine AWQ.y rfl rfl (B rfl) (Yv.convN_i64 rfl Try.underlying29 kd_2 (E rfl rfl) (fun hg => by omega)) ?_
          refine AWQ.callP rfl rfl (B rfl) rfl ce_30 (E rfl rfl) (evsC (E rfl rfl) (evsC (E rfl rfl) evs0)) (span30 ((wordAt b o) / 2 % 16) n (by omega) (by omega)) (fun t S h => h) ?_
          refine AWQ.y rfl rfl (B rfl) (Yv.convN_u64 rfl Try.underlying2 kd_29 (E rfl rfl) (fun hg => by omega)) ?_
          refine AWQ.y rfl rfl (B rfl) (Yv.addN_u64 rfl (E rfl rfl) (E rfl rfl) (fun hg => by omega)) ?_
          refine AWQ.y rfl rfl (B rfl) (Yv.sliceMap rfl ss_40 (E rfl rfl) (Bound.some_ (j := o + 8 + n) (E rfl rfl) (fun hg => by omega)) (Bound.some_ (j := o + (spanF ((wordAt b o) / 2 % 16) n).toNat) (E rfl rfl) (fun hg => by omega)) (fun hg => ⟨by omega, by omega⟩)) ?_
          refine AWQ.y rfl rfl (B rfl) (Yv.lenSl rfl so_40 (B rfl) (E rfl rfl) len_u8s) ?_
          refine AWQ.y rfl rfl (B rfl) (Yv.move rfl (E rfl rfl)) ?_
          refine AWQ.nil ?_
          refine AW.block ?_
          refine AW.loop (fun (i : Nat) => [(4, true, .v (vp b4)), (5, true, .v (.bool (((zsOf b o n ((wordAt b o) / 2 % 16)).take i).any (fun z => !decide (z = 0))))), (146, true, .sl 1 ((zsOf b o n ((wordAt b o) / 2 % 16)).map u8)), (147, true, .v (.int .i64 ((zsOf b o n ((wordAt b o) / 2 % 16)).length : Int))), (148, true, .v (.int .i64 (i : Int)))]) (fun (i : Nat) => ((RS bm br b a A c row) ++ [.box b4 24 (frCells (noRow ⟨((wordAt b o) / 2 % 16), ((wordAt b o) / 256 % 65536), (b.drop (o + 8)).take (o + 8 + n - (o + 8)), []⟩)), .row none 0 0 54 2 []])) (fun (i : Nat) => i ≤ (zsOf b o n ((wordAt b o) / 2 % 16)).length) (fun (i : Nat) => (zsOf b o n ((wordAt b o) / 2 % 16)).length - i) 0 ?_ ?_ ?_ ?_
          · exact Nat.zero_le _
          · exact (Sub.cons rfl rfl (Sub.cons rfl rfl (Sub.cons rfl rfl (Sub.cons rfl rfl (Sub.cons rfl rfl Sub.nil)))))
          · rfl
          ·
            intro i hinv
            refine AW.rseq ?_
            refine AWL.y rfl rfl (B rfl) (Yv.lss rfl (E rfl rfl) (E rfl rfl)) ?_
            refine AWL.nil ?_
            refine AW.seq ?_
            refine AW.cond rfl (fun h3t => ?_) (fun h3f => ?_)
            ·
              try replace h3t := of_decide_eq_true h3t
              refine AW.skip ?_
              refine AW.seq ?_
              refine AW.block ?_
              refine AW.rseq ?_
              refine AWL.y rfl rfl (B rfl) (Yv.indexSl rfl ss_40 (B rfl) (E rfl rfl) (E rfl rfl) (fun hg => ⟨rfl, (by first | omega | (simp only [len_refs, len_things, len_u8s]; omega))⟩)) ?_
              refine AWL.y rfl rfl (B rfl) (Yv.loadRp rfl ag_5 (E rfl rfl) (fun hg => u8_get (by omega))) ?_
              refine AWL.y rfl rfl (B rfl) (Yv.assign rfl (E rfl rfl)) ?_
              refine AWL.nil ?_
              refine AW.region ?_
              refine AWL.y rfl rfl (B rfl) (Yv.move rfl (E rfl rfl)) ?_
              refine AWL.y rfl rfl (B rfl) (Yv.move rfl (E rfl rfl)) ?_
              refine AWL.ygF rfl rfl rfl rfl (B rfl) (Yv.move rfl (E rfl rfl)) ?_
              refine AWL.ygF rfl rfl rfl rfl (B rfl) (Yv.neq rfl (Eg rfl rfl id) (E rfl rfl)) ?_
              refine AWL.y rfl rfl (B rfl) (Yv.pickOr (t := .const (.bool true)) rfl (E rfl rfl) (Eg rfl rfl id)) ?_
              refine AWL.y rfl rfl (B rfl) (Yv.assign rfl (E rfl rfl)) ?_
              refine AWL.nil ?_
              refine AW.region ?_
              refine AWL.y rfl rfl (B rfl) (Yv.addN_i64 rfl (E rfl rfl) (E rfl rfl) (fun hg => by omega)) ?_
              refine AWL.y rfl rfl (B rfl) (Yv.move rfl (E rfl rfl)) ?_
              refine AWL.nil ?_
              refine ⟨i + 1, by omega, by omega, Sub.cons rfl rfl (Sub.cons rfl (by rw [any_step _ _ (by omega)]) (Sub.cons rfl rfl (Sub.cons rfl rfl (Sub.cons rfl (by simp) Sub.nil)))), rfl⟩
            ·
              try replace h3f := of_decide_eq_false h3f
              obtain rfl : i = (zsOf b o n ((wordAt b o) / 2 % 16)).length := by omega
              rw [List.take_length]
              refine AW.exit ?_
              refine AW.rseq ?_
              refine AWL.y rfl rfl (B rfl) (Yv.move rfl (E rfl rfl)) ?_
              refine AWL.nil ?_
              refine AW.cond rfl (fun h4t => ?_) (fun h4f => ?_)
              ·
                try replace h4t := of_decide_eq_true h4t
                refine AW.rseq ?_
                refine AWL.y rfl rfl (B rfl) (Yv.loadBoxA rfl ag_24 (i := 3) rfl (E rfl rfl) rfl rfl) ?_
                refine AWL.storeBox (i := 3) rfl rfl rfl ag_24 rfl (E rfl rfl) (E rfl rfl) rfl rfl (Nat.le_of_ble_eq_true rfl) ?_
                refine AWL.y rfl rfl (B rfl) (Yv.assign rfl (E rfl rfl)) ?_
                refine AWL.nil ?_
                refine AW.ret (retI (.cellA (i := 3) rfl ag_24 rfl rfl rfl (.tmp rfl .nil)) ?_)
                exact ⟨noRow ⟨((wordAt b o) / 2 % 16), ((wordAt b o) / 256 % 65536), (b.drop (o + 8)).take (o + 8 + n - (o + 8)), []⟩, false, row, A, c, _, rfl, rfl, by rw [thingR_none ho hb0 hb1 (body_zs hn h2t h4t)]; rfl⟩
              ·
                try replace h4f := of_decide_eq_false h4f
                have hz : (zsOf b o n ((wordAt b o) / 2 % 16)).any (fun z => !decide (z = 0)) = false := h4f
                refine AW.skip ?_
                exact ⟨((row, noRow ⟨((wordAt b o) / 2 % 16), ((wordAt b o) / 256 % 65536), (b.drop (o + 8)).take (o + 8 + n - (o + 8)), []⟩), (A, c)), (by rw [show o + 8 + n - (o + 8) = n by omega]; exact body_bytes hn h2t hz), Sub.cons rfl rfl Sub.nil, rfl⟩
        ·
          try replace h2f := of_decide_eq_false h2f
          have h2f : bytesK ((wordAt b o) / 2 % 16) = false := h2f
          have hsp := span_other (n : Int) h2f
          refine AW.rseq ?_
          refine AWL.y rfl rfl (B rfl) (Yv.fieldBox rfl fo_24_0 (E rfl rfl)) ?_
          refine AWL.y rfl rfl (B rfl) (Yv.loadBox rfl ag_3 (i := 3) rfl (E rfl rfl) rfl) ?_
          refine AWL.y rfl rfl (B rfl) (Yv.eql rfl (E rfl rfl) (E rfl rfl)) ?_
          refine AWL.y rfl rfl (B rfl) (Yv.assign rfl (E rfl rfl)) ?_
          refine AWL.nil ?_
          refine AW.cond rfl (fun h5t => ?_) (fun h5f => ?_)
          ·
            try replace h5t := of_decide_eq_true h5t
            refine AW.seq ?_
            refine AW.rseq ?_
            refine AWL.y rfl rfl (B rfl) (Yv.move rfl (E rfl rfl)) ?_
            refine AWL.y rfl rfl (B rfl) (Yv.eql rfl (E rfl rfl) (E rfl rfl)) ?_
            refine AWL.y rfl rfl (B rfl) (Yv.move rfl (E rfl rfl)) ?_
            refine AWL.ygF rfl rfl rfl rfl (B rfl) (Yv.fieldBox rfl fo_24_1 (E rfl rfl)) ?_
            refine AWL.ygF rfl rfl rfl rfl (B rfl) (Yv.loadBox rfl ag_3 (i := 3) rfl (Eg rfl rfl id) rfl) ?_
            refine AWL.ygF rfl rfl rfl rfl (B rfl) (Yv.neq rfl (Eg rfl rfl id) (E rfl rfl)) ?_
            refine AWL.y rfl rfl (B rfl) (Yv.pickOr (t := .const (.bool true)) rfl (E rfl rfl) (Eg rfl rfl id)) ?_
            refine AWL.nil ?_
            refine AW.cond rfl (fun h6t => ?_) (fun h6f => ?_)
            ·
              try replace h6t := of_decide_eq_true h6t
              simp only [Bool.or_eq_true, Bool.and_eq_true, Bool.or_eq_false_iff, Bool.and_eq_false_iff, Bool.not_eq_true', Bool.not_eq_false', decide_eq_true_eq, decide_eq_false_iff_not, Decidable.not_not] at h6t
              refine AW.rseq ?_
              refine AWL.y rfl rfl (B rfl) (Yv.loadBoxA rfl ag_24 (i := 3) rfl (E rfl rfl) rfl rfl) ?_
              refine AWL.storeBox (i := 3) rfl rfl rfl ag_24 rfl (E rfl rfl) (E rfl rfl) rfl rfl (Nat.le_of_ble_eq_true rfl) ?_
              refine AWL.y rfl rfl (B rfl) (Yv.assign rfl (E rfl rfl)) ?_
              refine AWL.nil ?_
              refine AW.ret (retI (.cellA (i := 3) rfl ag_24 rfl rfl rfl (.tmp rfl .nil)) ?_)
              exact ⟨noRow ⟨((wordAt b o) / 2 % 16), ((wordAt b o) / 256 % 65536), [], []⟩, false, row, A, c, _, rfl, rfl, by rw [thingR_none ho hb0 hb1 (body_c1 hn h2f h5t h6t)]; rfl⟩
            ·
              try replace h6f := of_decide_eq_false h6f
              simp only [Bool.or_eq_true, Bool.and_eq_true, Bool.or_eq_false_iff, Bool.and_eq_false_iff, Bool.not_eq_true', Bool.not_eq_false', decide_eq_true_eq, decide_eq_false_iff_not, Decidable.not_not] at h6f
              have h6g := h6f
              refine AW.skip ?_
              refine AW.rseq ?_
              refine AWL.y rfl rfl (B rfl) (Yv.move rfl (E rfl rfl)) ?_
              refine AWL.y rfl rfl (B rfl) (Yv.nilChk rfl (E rfl rfl)) ?_
              refine AWL.y rfl rfl (B rfl) (Yv.fieldBox rfl fo_84_0 (E rfl rfl)) ?_
              refine AWL.y rfl rfl (B rfl) (Yv.loadBox rfl ag_40 (i := 1) rfl (E rfl rfl) rfl) ?_
              refine AWL.y rfl rfl (B rfl) (Yv.move rfl (E rfl rfl)) ?_
              refine AWL.y rfl rfl (B rfl) (Yv.addN_u64 rfl (E rfl rfl) (E rfl rfl) (fun hg => by omega)) ?_
              refine AWL.callP rfl rfl (B rfl) rfl ce_61 (E rfl rfl) (evsC (E rfl rfl) (evsC (E rfl rfl) evs0)) (word61 b (o + 8) (by omega) (by omega)) (fun t S h => h) ?_
              refine AWL.y rfl rfl (B rfl) (Yv.sub rfl (E rfl rfl) (E rfl rfl)) ?_
              refine AWL.y rfl rfl (B rfl) (Yv.assign rfl (E rfl rfl)) ?_
              refine AWL.nil ?_
              refine AW.retype (k := 12) (t' := .v (.int .u64 (IntKind.u64.wrap (wordAt b (o + 8) - 4194304)))) rfl (fun w L u h => h) ?_
              refine AW.seq ?_
              have hcr := code_range (wordAt b (o + 8) - 4194304)
              refine AW.rseq ?_
              refine AWL.y rfl rfl (B rfl) (Yv.move rfl (E rfl rfl)) ?_
              refine AWL.y rfl rfl (B rfl) (Yv.remN rfl (E rfl rfl) (E rfl rfl) (fun hg => by omega)) ?_
              refine AWL.y rfl rfl (B rfl) (Yv.neq rfl (E rfl rfl) (E rfl rfl)) ?_
              refine AWL.y rfl rfl (B rfl) (Yv.move rfl (E rfl rfl)) ?_
              refine AWL.ygF rfl rfl rfl rfl (B rfl) (Yv.move rfl (E rfl rfl)) ?_
              refine AWL.ygF rfl rfl rfl rfl (B rfl) (Yv.quoN_u64 rfl (Eg rfl rfl id) (E rfl rfl) (fun hg => by first | omega | (simp only [Bool.and_eq_true, Bool.or_eq_false_iff, Bool.not_eq_true', Bool.not_eq_false', decide_eq_true_eq, decide_eq_false_iff_not] at hg; omega))) ?_
              refine AWL.ygF rfl rfl rfl rfl (B rfl) (Yv.gtr rfl (Eg rfl rfl id) (E rfl rfl)) ?_
              refine AWL.y rfl rfl (B rfl) (Yv.pickOr (t := .const (.bool true)) rfl (E rfl rfl) (Eg rfl rfl id)) ?_
              refine AWL.nil ?_
              refine AW.cond rfl (fun h7t => ?_) (fun h7f => ?_)
              ·
                try replace h7t := of_decide_eq_true h7t
                simp only [Bool.or_eq_true, Bool.and_eq_true, Bool.or_eq_false_iff, Bool.and_eq_false_iff, Bool.not_eq_true', Bool.not_eq_false', decide_eq_true_eq, decide_eq_false_iff_not, Decidable.not_not] at h7t
                refine AW.rseq ?_
                refine AWL.y rfl rfl (B rfl) (Yv.loadBoxA rfl ag_24 (i := 3) rfl (E rfl rfl) rfl rfl) ?_
                refine AWL.storeBox (i := 3) rfl rfl rfl ag_24 rfl (E rfl rfl) (E rfl rfl) rfl rfl (Nat.le_of_ble_eq_true rfl) ?_
                refine AWL.y rfl rfl (B rfl) (Yv.assign rfl (E rfl rfl)) ?_
                refine AWL.nil ?_
                refine AW.ret (retI (.cellA (i := 3) rfl ag_24 rfl rfl rfl (.tmp rfl .nil)) ?_)
                exact ⟨noRow ⟨((wordAt b o) / 2 % 16), ((wordAt b o) / 256 % 65536), [], []⟩, false, row, A, c, _, rfl, rfl, by rw [thingR_none ho hb0 hb1 (body_c2 hn h2f h5t h6g h7t)]; rfl⟩
              ·
                try replace h7f := of_decide_eq_false h7f
                simp only [Bool.or_eq_true, Bool.and_eq_true, Bool.or_eq_false_iff, Bool.and_eq_false_iff, Bool.not_eq_true', Bool.not_eq_false', decide_eq_true_eq, decide_eq_false_iff_not, Decidable.not_not] at h7f
                have h7g := h7f
                refine AW.skip ?_
                refine AW.rseq ?_
                refine AWL.y rfl rfl (B rfl) (Yv.move rfl (E rfl rfl)) ?_
                refine AWL.y rfl rfl (B rfl) (Yv.quoN_u64 rfl (E rfl rfl) (E rfl rfl) (fun hg => by omega)) ?_
                refine AWL.y rfl rfl (B rfl) (Yv.convN_i64 rfl Try.underlying29 kd_3 (E rfl rfl) (fun hg => by omega)) ?_
                refine AWL.y rfl rfl (B rfl) (Yv.fieldBox rfl fo_24_1 (E rfl rfl)) ?_
                refine AWL.storeBox (i := 3) rfl rfl rfl ag_3 rfl (E rfl rfl) (E rfl rfl) rfl rfl (Nat.le_of_ble_eq_true rfl) ?_
                refine AWL.nil ?_
                refine AW.region ?_
                refine AWL.y rfl rfl (B rfl) (Yv.move rfl (E rfl rfl)) ?_
                refine AWL.y rfl rfl (B rfl) (Yv.move rfl (E rfl rfl)) ?_
                refine AWL.y rfl rfl (B rfl) (Yv.addN_u64 rfl (E rfl rfl) (E rfl rfl) (fun hg => by omega)) ?_
                refine AWL.y rfl rfl (B rfl) (Yv.move rfl (E rfl rfl)) ?_
                refine AWL.y rfl rfl (B rfl) (Yv.subN_u64 rfl (E rfl rfl) (E rfl rfl) (fun hg => by omega)) ?_
                refine AWL.retype (k := 197) (t' := .v (.int .u64 ((n - 1 : Nat) : Int))) rfl (fun w L u h => by rw [show ((n - 1 : Nat) : Int) = (n : Int) - 1 by omega]; exact h) ?_
                refine AWL.call rfl rfl (B rfl) rfl ce_62 (E rfl rfl) (evsC (E rfl rfl) (evsC (E rfl rfl) (evsC (E rfl rfl) evs0))) (S1 := (RS bm br b a A c row)) (S2 := _) rfl (values62R b a row bm br A c ws (o + 16) (n - 1) (by omega) (by omega) (by omega) (by omega) hrr) ?_
                rintro t198 S198 ⟨Ax, cx_, A198, c198, rfl, rfl⟩
                refine AWL.y rfl rfl (B rfl) (Yv.fieldBox rfl fo_24_3 (E rfl rfl)) ?_
                refine AWL.storeBox (i := 4) rfl rfl rfl ag_22 rfl (E rfl rfl) (E rfl rfl) rfl rfl (Nat.le_of_ble_eq_true rfl) ?_
                refine AWL.dropAt 5 ?_
                refine AWL.perm (List.Perm.append_left (RS bm br b a A198 c198 (valsF row (wordsAt b (o + 16) (n - 1))).1) (List.Perm.swap _ _ [])) ?_
                refine AWL.nil ?_
                exact ⟨((_, ⟨Ax, n - 1, cx_, ⟨((wordAt b o) / 2 % 16), (IntKind.u64.wrap (wordAt b (o + 8) - 4194304)) / 16, [], (valsF row (wordsAt b (o + 16) (n - 1))).2⟩⟩), (A198, c198)), body_clo hn h2f h5t h6g h7g, Sub.cons rfl rfl Sub.nil, rfl⟩
          ·
            try replace h5f := of_decide_eq_false h5f
            refine AW.region ?_
            refine AWL.y rfl rfl (B rfl) (Yv.move rfl (E rfl rfl)) ?_
            refine AWL.y rfl rfl (B rfl) (Yv.move rfl (E rfl rfl)) ?_
            refine AWL.y rfl rfl (B rfl) (Yv.addN_u64 rfl (E rfl rfl) (E rfl rfl) (fun hg => by omega)) ?_
            refine AWL.y rfl rfl (B rfl) (Yv.move rfl (E rfl rfl)) ?_
            refine AWL.call rfl rfl (B rfl) rfl ce_62 (E rfl rfl) (evsC (E rfl rfl) (evsC (E rfl rfl) (evsC (E rfl rfl) evs0))) (S1 := (RS bm br b a A c row)) (S2 := _) rfl (values62R b a row bm br A c ws (o + 8) n (by omega) (by omega) (by omega) (by omega) hrr) ?_
            rintro t111 S111 ⟨Ax, cx_, A111, c111, rfl, rfl⟩
            refine AWL.y rfl rfl (B rfl) (Yv.fieldBox rfl fo_24_3 (E rfl rfl)) ?_
            refine AWL.storeBox (i := 4) rfl rfl rfl ag_22 rfl (E rfl rfl) (E rfl rfl) rfl rfl (Nat.le_of_ble_eq_true rfl) ?_
            refine AWL.dropAt 5 ?_
            refine AWL.perm (List.Perm.append_left (RS bm br b a A111 c111 (valsF row (wordsAt b (o + 8) n)).1) (List.Perm.swap _ _ [])) ?_
            refine AWL.nil ?_
            exact ⟨((_, ⟨Ax, n, cx_, ⟨((wordAt b o) / 2 % 16), ((wordAt b o) / 256 % 65536), [], (valsF row (wordsAt b (o + 8) n)).2⟩⟩), (A111, c111)), body_other hn h2f h5f, Sub.cons rfl rfl Sub.nil, rfl⟩
      ·
        rintro ⟨⟨row2, f2⟩, A2, c2⟩ hbd
        obtain ⟨hr2, hto⟩ := body_ok hb hws hwr.1 hwr.2 ho8 hol hrr hb1 hbd
        refine AW.rseqP rfl ?_
        refine AWP.two (i := 0) (j := 1) (by kernel_rfl) rfl rfl ?_ ?_
        ·
          refine AWL.y rfl rfl (B rfl) (Yv.loadBoxA rfl ag_24 (i := 3) rfl (E rfl rfl) rfl rfl) ?_
          refine AWL.nil ?_
          refine AWP.one (i := 1) (by kernel_rfl) rfl ?_
          refine AWL.y rfl rfl (B rfl) (Yv.loadBoxA rfl ag_24 (i := 3) rfl (E rfl rfl) rfl rfl) ?_
          refine AWL.nil ?_
          refine AWP.one (i := 2) (by kernel_rfl) rfl ?_
          refine AWL.callSees (ts := [thingT f2.t]) rfl rfl (B rfl) rfl ce_29 (E rfl rfl) (Seens.one (sees_thing (f := f2) (E rfl rfl) (List.mem_of_getElem? (i := 4) rfl))) (made29 f2.t hto) (fun t S h => h) ?_
          refine AWL.nil ?_
          refine AWP.one (i := 3) (by kernel_rfl) rfl ?_
          refine AWL.storeBox (i := 3) rfl rfl rfl ag_24 rfl (E rfl rfl) (E rfl rfl) rfl rfl (Nat.le_of_ble_eq_true rfl) ?_
          refine AWL.nil ?_
          refine AWP.one (i := 4) (by kernel_rfl) rfl ?_
          refine AWL.y rfl rfl (B rfl) (Yv.assign rfl (E rfl rfl)) ?_
          refine AWL.nil ?_
          refine AWP.done (by kernel_rfl) ?_
          refine AW.ret (retI (.cellA (i := 3) rfl ag_24 rfl rfl rfl (.tmp rfl .nil)) ?_)
          exact ⟨f2, madeF f2.t, row2, A2, c2, _, rfl, rfl, thingR_some ho hb0 hb1 hbd⟩
        ·
          refine AWL.y rfl rfl (B rfl) (Yv.loadBoxA rfl ag_24 (i := 3) rfl (E rfl rfl) rfl rfl) ?_
          refine AWL.nil ?_
          refine AWP.two (i := 0) (j := 2) (by kernel_rfl) rfl rfl ?_ ?_
          ·
            refine AWL.y rfl rfl (B rfl) (Yv.loadBoxA rfl ag_24 (i := 3) rfl (E rfl rfl) rfl rfl) ?_
            refine AWL.nil ?_
            refine AWP.one (i := 2) (by kernel_rfl) rfl ?_
            refine AWL.callSees (ts := [thingT f2.t]) rfl rfl (B rfl) rfl ce_29 (E rfl rfl) (Seens.one (sees_thing (f := f2) (E rfl rfl) (List.mem_of_getElem? (i := 4) rfl))) (made29 f2.t hto) (fun t S h => h) ?_
            refine AWL.nil ?_
            refine AWP.one (i := 3) (by kernel_rfl) rfl ?_
            refine AWL.storeBox (i := 3) rfl rfl rfl ag_24 rfl (E rfl rfl) (E rfl rfl) rfl rfl (Nat.le_of_ble_eq_true rfl) ?_
            refine AWL.nil ?_
            refine AWP.one (i := 4) (by kernel_rfl) rfl ?_
            refine AWL.y rfl rfl (B rfl) (Yv.assign rfl (E rfl rfl)) ?_
            refine AWL.nil ?_
            refine AWP.done (by kernel_rfl) ?_
            refine AW.ret (retI (.cellA (i := 3) rfl ag_24 rfl rfl rfl (.tmp rfl .nil)) ?_)
            exact ⟨f2, madeF f2.t, row2, A2, c2, _, rfl, rfl, thingR_some ho hb0 hb1 hbd⟩
          ·
            refine AWL.callSees (ts := [thingT f2.t]) rfl rfl (B rfl) rfl ce_29 (E rfl rfl) (Seens.one (sees_thing (f := f2) (E rfl rfl) (List.mem_of_getElem? (i := 4) rfl))) (made29 f2.t hto) (fun t S h => h) ?_
            refine AWL.nil ?_
            refine AWP.one (i := 0) (by kernel_rfl) rfl ?_
            refine AWL.y rfl rfl (B rfl) (Yv.loadBoxA rfl ag_24 (i := 3) rfl (E rfl rfl) rfl rfl) ?_
            refine AWL.nil ?_
            refine AWP.one (i := 3) (by kernel_rfl) rfl ?_
            refine AWL.storeBox (i := 3) rfl rfl rfl ag_24 rfl (E rfl rfl) (E rfl rfl) rfl rfl (Nat.le_of_ble_eq_true rfl) ?_
            refine AWL.nil ?_
            refine AWP.one (i := 4) (by kernel_rfl) rfl ?_
            refine AWL.y rfl rfl (B rfl) (Yv.assign rfl (E rfl rfl)) ?_
            refine AWL.nil ?_
            refine AWP.done (by kernel_rfl) ?_
            refine AW.ret (retI (.cellA (i := 3) rfl ag_24 rfl rfl rfl (.tmp rfl .nil)) ?_)
            exact ⟨f2, madeF f2.t, row2, A2, c2, _, rfl, rfl, thingR_some ho hb0 hb1 hbd⟩

set_option maxHeartbeats 1000000 in
theorem Read27R (b : List UInt8) (a : Int) (ws : List Int) (hb : b.length ≤ 1099511627) (hws : ws.length ≤ 1099511627) (ha0 : 0 ≤ a) (ha1 : a ≤ 18446744073709551615) (hpl : PlOk ws) :
    ACalls Try.prog 27 [u8s b, .v (.int .u64 a), .sl 1 (ws.map zu)] [] (fun t_ S => ∃ (A : Option Addr) (c : Nat) (Ar : Option Addr) (nr cr : Nat) (fs : List Fr) (e0 e1 e2 e3 e4 : Ent), t_ = .tup [.agg [.v (.slice A fs.length c), .v (.slice Ar nr cr)], .v (.int .i64 (readR b a ws).2)] ∧ S = [e0, e1, e2, e3, e4, .row Ar nr cr 54 2 ((readR b a ws).1.roots.flatMap refCells), .row A fs.length c 24 4 (fs.flatMap frCells)] ++ fs.map frRow ∧ fs.map (·.t) = (readR b a ws).1.things) := by
  refine ACalls.intro Try.func27 rfl Try.ntmps27 (Nat.le_of_ble_eq_true rfl) rfl fun X w0 => ?_
  refine AW.rseq ?_
  refine AWL.allocOp rfl rfl (B rfl) rfl zc_27 (fun b6 => ?_)
  refine AWL.y rfl rfl (B rfl) (Yv.assign rfl (E rfl rfl)) ?_
  refine AWL.nil ?_
  refine AW.seq ?_
  refine AW.rseq ?_
  refine AWL.y rfl rfl (B rfl) (Yv.move rfl (E rfl rfl)) ?_
  refine AWL.y rfl rfl (B rfl) (Yv.remN rfl (E rfl rfl) (E rfl rfl) (fun hg => by omega)) ?_
  refine AWL.y rfl rfl (B rfl) (Yv.neq rfl (E rfl rfl) (E rfl rfl)) ?_
  refine AWL.y rfl rfl (B rfl) (Yv.move rfl (E rfl rfl)) ?_
  refine AWL.ygF rfl rfl rfl rfl (B rfl) (Yv.move rfl (E rfl rfl)) ?_
  refine AWL.ygF rfl rfl rfl rfl (B rfl) (Yv.gtr rfl (Eg rfl rfl id) (E rfl rfl)) ?_
  refine AWL.y rfl rfl (B rfl) (Yv.pickOr (t := .const (.bool true)) rfl (E rfl rfl) (Eg rfl rfl id)) ?_
  refine AWL.y rfl rfl (B rfl) (Yv.move rfl (E rfl rfl)) ?_
  refine AWL.ygF rfl rfl rfl rfl (B rfl) (Yv.move rfl (E rfl rfl)) ?_
  refine AWL.ygF rfl rfl rfl rfl (B rfl) (Yv.lenSl rfl so_40 (B rfl) (Eg rfl rfl id) len_u8s) ?_
  refine AWL.ygF rfl rfl rfl rfl (B rfl) (Yv.convN_u64 rfl Try.underlying3 kd_29 (Eg rfl rfl id) (fun hg => by first | omega | (simp only [Bool.and_eq_true, Bool.or_eq_false_iff, Bool.not_eq_true', Bool.not_eq_false', decide_eq_true_eq, decide_eq_false_iff_not] at hg; omega))) ?_
  refine AWL.ygF rfl rfl rfl rfl (B rfl) (Yv.move rfl (E rfl rfl)) ?_
  refine AWL.ygF rfl rfl rfl rfl (B rfl) (Yv.subN_u64 rfl (E rfl rfl) (Eg rfl rfl id) (fun hg => by first | omega | (simp only [Bool.and_eq_true, Bool.or_eq_false_iff, Bool.not_eq_true', Bool.not_eq_false', decide_eq_true_eq, decide_eq_false_iff_not] at hg; omega))) ?_
  refine AWL.ygF rfl rfl rfl rfl (B rfl) (Yv.gtr rfl (Eg rfl rfl id) (Eg rfl rfl id)) ?_
  refine AWL.y rfl rfl (B rfl) (Yv.pickOr (t := .const (.bool true)) rfl (E rfl rfl) (Eg rfl rfl id)) ?_
  refine AWL.nil ?_
  refine AW.cond rfl (fun h0t => ?_) (fun h0f => ?_)
  ·
    try replace h0t := of_decide_eq_true h0t
    refine AW.rseq ?_
    refine AWL.y rfl rfl (B rfl) (Yv.buildS rfl sh_27 evp0 (fun _ => rfl)) ?_
    refine AWL.storeBox (i := 0) rfl rfl rfl ag_27 rfl (E rfl rfl) (E rfl rfl) rfl rfl (Nat.le_of_ble_eq_true rfl) ?_
    refine AWL.y rfl rfl (B rfl) (Yv.assign rfl (E rfl rfl)) ?_
    refine AWL.nil ?_
    refine AW.rowNil 1 1 ?_
    refine AW.rowNil 1 1 ?_
    refine AW.rowNil 1 1 ?_
    refine AW.rowNil 1 1 ?_
    refine AW.rowNil 54 2 ?_
    refine AW.rowNil 24 4 ?_
    refine AW.ret (retI (.cellA (i := 0) rfl ag_27 rfl rfl rfl (.tmp rfl .nil)) ?_)
    rw [readR_bad h0t]
    exact ⟨none, 0, none, 0, 0, [], _, _, _, _, _, rfl, rfl, rfl⟩
  ·
    try replace h0f := of_decide_eq_false h0f
    have hbr : badR b a = false := h0f
    simp only [Bool.or_eq_true, Bool.and_eq_true, Bool.or_eq_false_iff, Bool.and_eq_false_iff, Bool.not_eq_true', Bool.not_eq_false', decide_eq_true_eq, decide_eq_false_iff_not, Decidable.not_not] at h0f
    have ha8 : a % 8 = 0 := by omega
    have hab : a + b.length ≤ 9223372036854775808 := by omega
    refine AW.skip ?_
    refine AW.rseq ?_
    refine AWL.y rfl rfl (B rfl) (Yv.move rfl (E rfl rfl)) ?_
    refine AWL.y rfl rfl (B rfl) (Yv.move rfl (E rfl rfl)) ?_
    refine AWL.makeMapOp rfl rfl (B rfl) rfl (fun b33 => ?_)
    refine AWL.y rfl rfl (B rfl) (Yv.buildS rfl sh_84 (evpC (E rfl rfl) (evpC (E rfl rfl) (evpC (E rfl rfl) evp0))) (fun _ => rfl)) ?_
    refine AWL.boxOp rfl rfl (B rfl) rfl (E rfl rfl) rfl (fun b35 => ?_)
    refine AWL.y rfl rfl (B rfl) (Yv.assign rfl (E rfl rfl)) ?_
    refine AWL.nil ?_
    refine AW.rowNil 29 1 ?_
    refine AW.perm (List.perm_append_comm (l₁ := RS b33 b35 b a none 0 []) (l₂ := [.box b6 27 [.v (.slice none 0 0), .v (.slice none 0 0)]])) ?_
    refine AW.rseq ?_
    refine AWL.allocOp rfl rfl (B rfl) rfl zc_27 (fun b9 => ?_)
    refine AWL.nil ?_
    refine AW.rowNil 54 2 ?_
    refine AW.seq ?_
    refine AW.rseq ?_
    refine AWL.y rfl rfl (B rfl) (Yv.move rfl (E rfl rfl)) ?_
    refine AWL.y rfl rfl (B rfl) (Yv.lenSl rfl so_41 (B rfl) (E rfl rfl) len_zu) ?_
    refine AWL.y rfl rfl (B rfl) (Yv.move rfl (E rfl rfl)) ?_
    refine AWL.nil ?_
    refine AW.block ?_
    refine AW.loop5 (fun (j : Nat) (A1 : Option Addr) (c1 : Nat) (Ar : Option Addr) (cr : Nat) => [(6, true, .v (vp b6)), (8, true, .v (vp b35)), (9, true, .v (vp b9)), (36, true, .sl 1 (ws.map zu)), (37, true, .v (.int .i64 (ws.length : Int))), (38, true, .v (.int .i64 (j : Int)))]) (fun (j : Nat) (A1 : Option Addr) (c1 : Nat) (Ar : Option Addr) (cr : Nat) => ((RS b33 b35 b a A1 c1 (valsF [] (ws.take j)).1) ++ [.box b6 27 [.v (.slice none 0 0), .v (.slice none 0 0)], .box b9 27 [.v (.slice none 0 0), .v (.slice Ar j cr)], .row Ar j cr 54 2 ((valsF [] (ws.take j)).2.flatMap refCells)])) (fun (j : Nat) (A1 : Option Addr) (c1 : Nat) (Ar : Option Addr) (cr : Nat) => j ≤ ws.length) (fun (j : Nat) (A1 : Option Addr) (c1 : Nat) (Ar : Option Addr) (cr : Nat) => ws.length - j) 0 none 0 none 0 ?_ ?_ ?_ ?_
    · exact Nat.zero_le _
    · exact (Sub.cons rfl rfl (Sub.cons rfl rfl (Sub.cons rfl rfl (Sub.cons rfl rfl (Sub.cons rfl rfl (Sub.cons rfl rfl Sub.nil))))))
    · rfl
    ·
      intro j A1 c1 Ar cr hinv
      have hok := valsF_ok (RowR.nil b ws) (l := ws.take j) (fun x hx => List.mem_append.2 (.inl (List.mem_of_mem_take hx)))
      have hlen := hok.len
      refine AW.rseq ?_
      refine AWL.y rfl rfl (B rfl) (Yv.lss rfl (E rfl rfl) (E rfl rfl)) ?_
      refine AWL.nil ?_
      refine AW.seq ?_
      refine AW.cond rfl (fun h1t => ?_) (fun h1f => ?_)
      ·
        try replace h1t := of_decide_eq_true h1t
        have hxr := hpl (ws.getD j 0) (getD_mem0 (by omega))
        refine AW.skip ?_
        refine AW.seq ?_
        refine AW.block ?_
        refine AW.rseq ?_
        refine AWL.y rfl rfl (B rfl) (Yv.indexSl rfl ss_41 (B rfl) (E rfl rfl) (E rfl rfl) (fun hg => ⟨rfl, (by first | omega | (simp only [len_zu, len_refs, len_things, len_u8s]; omega))⟩)) ?_
        refine AWL.y rfl rfl (B rfl) (Yv.loadRp rfl ag_29 (E rfl rfl) (fun hg => zu_get (by omega))) ?_
        refine AWL.y rfl rfl (B rfl) (Yv.assign rfl (E rfl rfl)) ?_
        refine AWL.nil ?_
        refine AW.mid1 (α := (Option Addr × Nat) × (Option Addr × Nat)) (fun q => [(6, true, .v (vp b6)), (8, true, .v (vp b35)), (9, true, .v (vp b9)), (36, true, .sl 1 (ws.map zu)), (37, true, .v (.int .i64 (ws.length : Int))), (38, true, .v (.int .i64 (j : Int)))]) (fun q => ((RS b33 b35 b a q.1.1 q.1.2 (valsF [] (ws.take (j + 1))).1) ++ [.box b6 27 [.v (.slice none 0 0), .v (.slice none 0 0)], .box b9 27 [.v (.slice none 0 0), .v (.slice q.2.1 (j + 1) q.2.2)], .row q.2.1 (j + 1) q.2.2 54 2 ((valsF [] (ws.take (j + 1))).2.flatMap refCells)])) (fun _ => True) ?_ ?_
        ·
          refine AW.regionP rfl ?_
          refine AWP.take (i := 0) rfl (by kernel_rfl) (by kernel_rfl) (by kernel_rfl) rfl rfl (B rfl) (freeField rfl fo_27_1 (E rfl rfl)) ?_
          refine AWP.take (i := 2) rfl (by kernel_rfl) (by kernel_rfl) (by kernel_rfl) rfl rfl (B rfl) (freeMove rfl (E rfl rfl)) ?_
          refine AWP.take (i := 3) rfl (by kernel_rfl) (by kernel_rfl) (by kernel_rfl) rfl rfl (B rfl) (freeMove rfl (E rfl rfl)) ?_
          refine AWP.two (i := 1) (j := 4) (by kernel_rfl) rfl rfl ?_ ?_
          ·
            refine AWL.y rfl rfl (B rfl) (Yv.loadBox rfl ag_22 (i := 4) rfl (E rfl rfl) rfl) ?_
            refine AWL.nil ?_
            refine AWP.one (i := 4) (by kernel_rfl) rfl ?_
            refine AWL.call rfl rfl (B rfl) rfl ce_53 (E rfl rfl) (evsC (E rfl rfl) (evsC (E rfl rfl) evs0)) (S1 := (RS b33 b35 b a A1 c1 (valsF [] (ws.take j)).1)) (S2 := _) rfl (value53 b a (valsF [] (ws.take j)).1 b33 b35 A1 c1 (ws.getD j 0) hxr.1 hxr.2 (by omega)) ?_
            rintro t46 S46 ⟨rfl, A46, c46, E46, rfl⟩
            refine AWL.dropAt 3 ?_
            refine AWL.nil ?_
            refine AWP.one (i := 5) (by kernel_rfl) rfl ?_
            refine AWL.buildSliceE rfl rfl (B rfl) rfl el_22 (B rfl) rfl (evsC (E rfl rfl) evs0) (Nat.le_of_ble_eq_true rfl) rfl rfl ?_
            refine AWL.nil ?_
            refine AWP.one (i := 6) (by kernel_rfl) rfl ?_
            refine AWL.appendRow (i := 5) rfl rfl (B rfl) rfl el_22 (B rfl) rfl (E rfl rfl) (SrcT.sl so_22 (B rfl) (E rfl rfl) rfl) (by unfold maxLen; omega) (by omega) (fun A48 c48 => ?_)
            refine AWL.nil ?_
            refine AWP.one (i := 7) (by kernel_rfl) rfl ?_
            refine AWL.y rfl rfl (B rfl) (Yv.fieldBox rfl fo_27_1 (E rfl rfl)) ?_
            refine AWL.nil ?_
            refine AWP.one (i := 8) (by kernel_rfl) rfl ?_
            refine AWL.storeBox (i := 4) rfl rfl rfl ag_22 rfl (E rfl rfl) (E rfl rfl) rfl rfl (Nat.le_of_ble_eq_true rfl) ?_
            refine AWL.nil ?_
            refine AWP.done (by kernel_rfl) ?_
            rw [vals_take (by omega), out_flat]
            exact ⟨((A46, c46), (A48, c48)), trivial, Sub.cons rfl rfl (Sub.cons rfl rfl (Sub.cons rfl rfl (Sub.cons rfl rfl (Sub.cons rfl rfl (Sub.cons rfl rfl Sub.nil))))), rfl⟩
          ·
            refine AWL.call rfl rfl (B rfl) rfl ce_53 (E rfl rfl) (evsC (E rfl rfl) (evsC (E rfl rfl) evs0)) (S1 := (RS b33 b35 b a A1 c1 (valsF [] (ws.take j)).1)) (S2 := _) rfl (value53 b a (valsF [] (ws.take j)).1 b33 b35 A1 c1 (ws.getD j 0) hxr.1 hxr.2 (by omega)) ?_
            rintro t46 S46 ⟨rfl, A46, c46, E46, rfl⟩
            refine AWL.dropAt 3 ?_
            refine AWL.nil ?_
            refine AWP.two (i := 1) (j := 5) (by kernel_rfl) rfl rfl ?_ ?_
            ·
              refine AWL.y rfl rfl (B rfl) (Yv.loadBox rfl ag_22 (i := 4) rfl (E rfl rfl) rfl) ?_
              refine AWL.nil ?_
              refine AWP.one (i := 5) (by kernel_rfl) rfl ?_
              refine AWL.buildSliceE rfl rfl (B rfl) rfl el_22 (B rfl) rfl (evsC (E rfl rfl) evs0) (Nat.le_of_ble_eq_true rfl) rfl rfl ?_
              refine AWL.nil ?_
              refine AWP.one (i := 6) (by kernel_rfl) rfl ?_
              refine AWL.appendRow (i := 5) rfl rfl (B rfl) rfl el_22 (B rfl) rfl (E rfl rfl) (SrcT.sl so_22 (B rfl) (E rfl rfl) rfl) (by unfold maxLen; omega) (by omega) (fun A48 c48 => ?_)
              refine AWL.nil ?_
              refine AWP.one (i := 7) (by kernel_rfl) rfl ?_
              refine AWL.y rfl rfl (B rfl) (Yv.fieldBox rfl fo_27_1 (E rfl rfl)) ?_
              refine AWL.nil ?_
              refine AWP.one (i := 8) (by kernel_rfl) rfl ?_
              refine AWL.storeBox (i := 4) rfl rfl rfl ag_22 rfl (E rfl rfl) (E rfl rfl) rfl rfl (Nat.le_of_ble_eq_true rfl) ?_
              refine AWL.nil ?_
              refine AWP.done (by kernel_rfl) ?_
              rw [vals_take (by omega), out_flat]
              exact ⟨((A46, c46), (A48, c48)), trivial, Sub.cons rfl rfl (Sub.cons rfl rfl (Sub.cons rfl rfl (Sub.cons rfl rfl (Sub.cons rfl rfl (Sub.cons rfl rfl Sub.nil))))), rfl⟩
            ·
              refine AWL.buildSliceE rfl rfl (B rfl) rfl el_22 (B rfl) rfl (evsC (E rfl rfl) evs0) (Nat.le_of_ble_eq_true rfl) rfl rfl ?_
              refine AWL.nil ?_
              refine AWP.one (i := 1) (by kernel_rfl) rfl ?_
              refine AWL.y rfl rfl (B rfl) (Yv.loadBox rfl ag_22 (i := 4) rfl (E rfl rfl) rfl) ?_
              refine AWL.nil ?_
              refine AWP.one (i := 6) (by kernel_rfl) rfl ?_
              refine AWL.appendRow (i := 5) rfl rfl (B rfl) rfl el_22 (B rfl) rfl (E rfl rfl) (SrcT.sl so_22 (B rfl) (E rfl rfl) rfl) (by unfold maxLen; omega) (by omega) (fun A48 c48 => ?_)
              refine AWL.nil ?_
              refine AWP.one (i := 7) (by kernel_rfl) rfl ?_
              refine AWL.y rfl rfl (B rfl) (Yv.fieldBox rfl fo_27_1 (E rfl rfl)) ?_
              refine AWL.nil ?_
              refine AWP.one (i := 8) (by kernel_rfl) rfl ?_
              refine AWL.storeBox (i := 4) rfl rfl rfl ag_22 rfl (E rfl rfl) (E rfl rfl) rfl rfl (Nat.le_of_ble_eq_true rfl) ?_
              refine AWL.nil ?_
              refine AWP.done (by kernel_rfl) ?_
              rw [vals_take (by omega), out_flat]
              exact ⟨((A46, c46), (A48, c48)), trivial, Sub.cons rfl rfl (Sub.cons rfl rfl (Sub.cons rfl rfl (Sub.cons rfl rfl (Sub.cons rfl rfl (Sub.cons rfl rfl Sub.nil))))), rfl⟩
        ·
          rintro ⟨qa, qo⟩ env1 hmid hsub1
          refine AW.weaken hsub1 ?_
          refine AW.region ?_
          refine AWL.y rfl rfl (B rfl) (Yv.addN_i64 rfl (E rfl rfl) (E rfl rfl) (fun hg => by omega)) ?_
          refine AWL.y rfl rfl (B rfl) (Yv.move rfl (E rfl rfl)) ?_
          refine AWL.nil ?_
          refine ⟨j + 1, qa.1, qa.2, qo.1, qo.2, by omega, by omega, Sub.cons rfl rfl (Sub.cons rfl rfl (Sub.cons rfl rfl (Sub.cons rfl rfl (Sub.cons rfl rfl (Sub.cons rfl (by simp) Sub.nil))))), rfl⟩
      ·
        try replace h1f := of_decide_eq_false h1f
        obtain rfl : j = ws.length := by omega
        refine AW.exit ?_
        refine AW.seq ?_
        rw [List.take_length]
        refine AW.rseq ?_
        refine AWL.y rfl rfl (B rfl) (Yv.assign rfl (E rfl rfl)) ?_
        refine AWL.nil ?_
        refine AW.rowNil 24 4 ?_
        refine AW.block ?_
        refine AW.loop5 (fun (m : List Int × List Fr) (A1 : Option Addr) (c1 : Nat) (Ao : Option Addr) (co : Nat) => [(6, true, .v (vp b6)), (8, true, .v (vp b35)), (9, true, .v (vp b9)), (12, true, .v (.int .i64 (m.2.length : Int)))]) (fun (m : List Int × List Fr) (A1 : Option Addr) (c1 : Nat) (Ao : Option Addr) (co : Nat) => ((RS b33 b35 b a A1 c1 m.1) ++ ([.box b6 27 [.v (.slice none 0 0), .v (.slice none 0 0)], .box b9 27 [.v (.slice Ao m.2.length co), .v (.slice Ar ws.length cr)], .row Ar ws.length cr 54 2 ((valsF [] ws).2.flatMap refCells), .row Ao m.2.length co 24 4 (m.2.flatMap frCells)] ++ m.2.map frRow))) (fun (m : List Int × List Fr) (A1 : Option Addr) (c1 : Nat) (Ao : Option Addr) (co : Nat) => RI b a ws (m.1, m.2.map (·.t))) (fun (m : List Int × List Fr) (A1 : Option Addr) (c1 : Nat) (Ao : Option Addr) (co : Nat) => fuelR b - m.2.length) (((valsF [] ws).1, [])) A1 c1 none 0 ?_ ?_ ?_ ?_
        · exact RI.init
        · exact (Sub.cons rfl rfl (Sub.cons rfl rfl (Sub.cons rfl rfl (Sub.cons rfl rfl Sub.nil))))
        · rfl
        ·
          intro m A1 c1 Ao co hinv
          have hmm : (m.2.map (·.t)).length = m.2.length := List.length_map ..
          have hml : m.2.length ≤ b.length / 8 := hmm ▸ hinv.len ha8
          have hle : m.2.length ≤ m.1.length := hmm ▸ hinv.le
          have hrl : m.1.length ≤ ws.length + b.length / 8 := hinv.row.len
          have hprow : PlOk m.1 := hinv.row.range hpl
          have hfu : fuelR b = b.length / 8 + 1 := rfl
          refine AW.seq ?_
          refine AW.rseq ?_
          refine AWL.y rfl rfl (B rfl) (Yv.move rfl (E rfl rfl)) ?_
          refine AWL.y rfl rfl (B rfl) (Yv.move rfl (E rfl rfl)) ?_
          refine AWL.y rfl rfl (B rfl) (Yv.nilChk rfl (E rfl rfl)) ?_
          refine AWL.y rfl rfl (B rfl) (Yv.fieldBox rfl fo_84_3 (E rfl rfl)) ?_
          refine AWL.y rfl rfl (B rfl) (Yv.loadBox rfl ag_41 (i := 1) rfl (E rfl rfl) rfl) ?_
          refine AWL.y rfl rfl (B rfl) (Yv.lenV rfl so_41 (E rfl rfl)) ?_
          refine AWL.y rfl rfl (B rfl) (Yv.lss rfl (E rfl rfl) (E rfl rfl)) ?_
          refine AWL.nil ?_
          refine AW.cond rfl (fun h2t => ?_) (fun h2f => ?_)
          ·
            try replace h2t := of_decide_eq_true h2t
            have hzr := hprow (m.1.getD m.2.length 0) (getD_mem0 (by omega))
            refine AW.skip ?_
            refine AW.seq ?_
            refine AW.block ?_
            refine AW.rseq ?_
            refine AWL.y rfl rfl (B rfl) (Yv.move rfl (E rfl rfl)) ?_
            refine AWL.y rfl rfl (B rfl) (Yv.move rfl (E rfl rfl)) ?_
            refine AWL.y rfl rfl (B rfl) (Yv.nilChk rfl (E rfl rfl)) ?_
            refine AWL.y rfl rfl (B rfl) (Yv.fieldBox rfl fo_84_3 (E rfl rfl)) ?_
            refine AWL.y rfl rfl (B rfl) (Yv.loadBox rfl ag_41 (i := 1) rfl (E rfl rfl) rfl) ?_
            refine AWL.y rfl rfl (B rfl) (Yv.move rfl (E rfl rfl)) ?_
            refine AWL.y rfl rfl (B rfl) (Yv.indexRow (j := m.2.length) rfl ss_41 (i := 2) rfl (E rfl rfl) (E rfl rfl) (fun hg => ⟨rfl, by omega⟩)) ?_
            refine AWL.y rfl rfl (B rfl) (Yv.loadEp rfl ag_29 (i := 2) rfl (E rfl rfl) (fun hg => zu_get (by omega))) ?_
            refine AWL.call rfl rfl (B rfl) rfl ce_54 (E rfl rfl) (evsC (E rfl rfl) (evsC (E rfl rfl) evs0)) (S1 := (RS b33 b35 b a A1 c1 m.1)) (S2 := _) rfl (thing54R b a m.1 b33 b35 A1 c1 ws (m.1.getD m.2.length 0) hzr.1 hzr.2 hb hws ha0 hab ha8 hinv.row) ?_
            rintro t69 S69 ⟨f, ok, row', A69, c69, E69, rfl, rfl, hth⟩
            refine AWL.dropAt 3 ?_
            refine AWL.y rfl rfl (B rfl) (Yv.move rfl (E rfl rfl)) ?_
            refine AWL.y rfl rfl (B rfl) (Yv.extract rfl (E rfl rfl) rfl) ?_
            refine AWL.y rfl rfl (B rfl) (Yv.extract rfl (E rfl rfl) rfl) ?_
            refine AWL.allocOp rfl rfl (B rfl) rfl zc_24 (fun b13 => ?_)
            refine AWL.perm (perm_ins (RS b33 b35 b a A69 c69 row' ++ [frRow f]) ([_, _, _, _] ++ m.2.map frRow) _) ?_
            refine AWL.storeBox (i := 4) rfl rfl rfl ag_24 rfl (E rfl rfl) (E rfl rfl) rfl rfl (Nat.le_of_ble_eq_true rfl) ?_
            refine AWL.y rfl rfl (B rfl) (Yv.assign rfl (E rfl rfl)) ?_
            refine AWL.nil ?_
            refine AW.seq ?_
            refine AW.rseq ?_
            refine AWL.y rfl rfl (B rfl) (Yv.move rfl (E rfl rfl)) ?_
            refine AWL.y rfl rfl (B rfl) (Yv.not rfl (E rfl rfl)) ?_
            refine AWL.nil ?_
            refine AW.cond rfl (fun h3t => ?_) (fun h3f => ?_)
            ·
              try replace h3t := of_decide_eq_true h3t
              have hok : ok = false := by simpa using h3t
              rw [hok, if_neg (by decide)] at hth
              refine AW.rseq ?_
              refine AWL.y rfl rfl (B rfl) (Yv.buildS rfl sh_27 evp0 (fun _ => rfl)) ?_
              refine AWL.storeBox (i := 5) rfl rfl rfl ag_27 rfl (E rfl rfl) (E rfl rfl) rfl rfl (Nat.le_of_ble_eq_true rfl) ?_
              refine AWL.y rfl rfl (B rfl) (Yv.assign rfl (E rfl rfl)) ?_
              refine AWL.nil ?_
              refine AW.drop (List.take_sublist 6 _) ?_
              refine AW.dropAt 4 ?_
              refine AW.rowNil 54 2 ?_
              refine AW.rowNil 24 4 ?_
              refine AW.ret (retI (.cellA (i := 4) rfl ag_27 rfl rfl rfl (.tmp rfl .nil)) ?_)
              rw [readR_fail hbr hinv (by show (m.2.map (·.t)).length < m.1.length; rw [hmm]; omega) (by show thingR b a m.1 (m.1.getD (m.2.map (·.t)).length 0) = none; rw [hmm]; exact hth)]
              exact ⟨none, 0, none, 0, 0, [], _, _, _, _, _, rfl, rfl, rfl⟩
            ·
              try replace h3f := of_decide_eq_false h3f
              have hok : ok = true := by simpa using h3f
              have hth' : thingR b a m.1 (m.1.getD m.2.length 0) = some (row', f.t) := by rw [hth, if_pos hok]
              refine AW.skip ?_
              refine AW.region ?_
              refine AWL.y rfl rfl (B rfl) (Yv.fieldBox rfl fo_27_0 (E rfl rfl)) ?_
              refine AWL.y rfl rfl (B rfl) (Yv.loadBox rfl ag_25 (i := 6) rfl (E rfl rfl) rfl) ?_
              refine AWL.y rfl rfl (B rfl) (Yv.loadBoxA rfl ag_24 (i := 4) rfl (E rfl rfl) rfl rfl) ?_
              refine AWL.buildSliceE rfl rfl (B rfl) rfl el_25 (B rfl) rfl (evsC (E rfl rfl) evs0) (Nat.le_of_ble_eq_true rfl) rfl rfl ?_
              refine AWL.appendRow (i := 8) rfl rfl (B rfl) rfl el_25 (B rfl) rfl (E rfl rfl) (SrcT.sl so_25 (B rfl) (E rfl rfl) rfl) (by unfold maxLen; omega) (by omega) (fun A79 c79 => ?_)
              refine AWL.y rfl rfl (B rfl) (Yv.fieldBox rfl fo_27_0 (E rfl rfl)) ?_
              refine AWL.storeBox (i := 6) rfl rfl rfl ag_25 rfl (E rfl rfl) (E rfl rfl) rfl rfl (Nat.le_of_ble_eq_true rfl) ?_
              refine AWL.nil ?_
              refine AW.dropAt 4 ?_
              refine AW.perm (perm_end (RS b33 b35 b a A69 c69 row') ([_, _, _, _] ++ m.2.map frRow) _) ?_
              refine AW.region ?_
              refine AWL.y rfl rfl (B rfl) (Yv.move rfl (E rfl rfl)) ?_
              refine AWL.y rfl rfl (B rfl) (Yv.addN_i64 rfl (E rfl rfl) (E rfl rfl) (fun hg => by omega)) ?_
              refine AWL.y rfl rfl (B rfl) (Yv.assign rfl (E rfl rfl)) ?_
              refine AWL.nil ?_
              have hst := RI.step hb hws ha8 hinv (by show (m.2.map (·.t)).length < m.1.length; rw [hmm]; omega) (by show thingR b a m.1 (m.1.getD (m.2.map (·.t)).length 0) = some (row', f.t); rw [hmm]; exact hth')
              refine ⟨(row', m.2 ++ [f]), A69, c69, A79, c79, (by rw [List.map_append]; exact hst), ?_, ?_, ?_⟩
              · rw [List.length_append, List.length_singleton]; omega
              · exact (Sub.cons rfl rfl (Sub.cons rfl rfl (Sub.cons rfl rfl (Sub.cons rfl (by simp) Sub.nil))))
              · simp only [fr_flat, fr_map, List.length_append, List.length_singleton, List.append_assoc]
                rfl
          ·
            try replace h2f := of_decide_eq_false h2f
            refine AW.exit ?_
            refine AW.rseq ?_
            refine AWL.y rfl rfl (B rfl) (Yv.loadBoxA rfl ag_27 (i := 4) rfl (E rfl rfl) rfl rfl) ?_
            refine AWL.storeBox (i := 3) rfl rfl rfl ag_27 rfl (E rfl rfl) (E rfl rfl) rfl rfl (Nat.le_of_ble_eq_true rfl) ?_
            refine AWL.y rfl rfl (B rfl) (Yv.assign rfl (E rfl rfl)) ?_
            refine AWL.nil ?_
            refine AW.ret (retI (.cellA (i := 3) rfl ag_27 rfl rfl rfl (.tmp rfl .nil)) ?_)
            rw [readR_ok hbr hinv (by show m.1.length ≤ (m.2.map (·.t)).length; rw [hmm]; omega)]
            exact ⟨Ao, co, Ar, ws.length, cr, m.2, _, _, _, _, _, rfl, rfl, rfl⟩

end Go.Proofs.Ytbndnmmceccbkaa
