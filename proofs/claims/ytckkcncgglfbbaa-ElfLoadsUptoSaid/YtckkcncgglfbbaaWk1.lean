/-
  CONTRACTS of the leaf functions of the elf seat, walked by program.
-/
import Derived.Test.YtckkcncgglfbbaaFacts
import Derived.Test.YtckkcncgglfbbaaPlain
namespace Go.Proofs.Ytckkcncgglfbbaa
open Go Go.RowKit
set_option linter.unusedVariables false

set_option maxHeartbeats 400000 in
theorem within28 (n a m : Int) (h0 : 0 ≤ n) (h1 : n ≤ 9223372036854775807) (h2 : 0 ≤ a) (h3 : 0 ≤ m) (h4 : a ≤ 18446744073709551615) :
    ACalls Try.prog 28 [.v (.int .i64 n), .v (.int .u64 a), .v (.int .u64 m)] [] fun t S => t = .v (.bool (decide (a ≤ n) && decide (m ≤ n - a))) := by
  refine ACalls.intro Try.func28 rfl Try.ntmps28 (Nat.le_of_ble_eq_true rfl) rfl fun X w0 => ?_
  refine AW.rseq ?_
  refine AWL.y rfl rfl (B rfl) (Yv.assign rfl (E rfl rfl)) ?_
  refine AWL.nil ?_
  refine AW.rseq ?_
  refine AWL.y rfl rfl (B rfl) (Yv.move rfl (E rfl rfl)) ?_
  refine AWL.y rfl rfl (B rfl) (Yv.move rfl (E rfl rfl)) ?_
  refine AWL.y rfl rfl (B rfl) (Yv.convN_u64 rfl Try.underlying3 kd_22 (E rfl rfl) (fun hg => by omega)) ?_
  refine AWL.y rfl rfl (B rfl) (Yv.leq rfl (E rfl rfl) (E rfl rfl)) ?_
  refine AWL.y rfl rfl (B rfl) (Yv.move rfl (E rfl rfl)) ?_
  refine AWL.ygT rfl rfl rfl rfl (B rfl) (Yv.move rfl (E rfl rfl)) ?_
  refine AWL.ygT rfl rfl rfl rfl (B rfl) (Yv.move rfl (E rfl rfl)) ?_
  refine AWL.ygT rfl rfl rfl rfl (B rfl) (Yv.convN_u64 rfl Try.underlying3 kd_22 (Eg rfl rfl id) (fun hg => by first | omega | (simp only [Bool.and_eq_true, Bool.or_eq_false_iff, Bool.not_eq_true', Bool.not_eq_false', decide_eq_true_eq, decide_eq_false_iff_not] at hg; omega))) ?_
  refine AWL.ygT rfl rfl rfl rfl (B rfl) (Yv.move rfl (E rfl rfl)) ?_
  refine AWL.ygT rfl rfl rfl rfl (B rfl) (Yv.subN_u64 rfl (Eg rfl rfl id) (Eg rfl rfl id) (fun hg => by first | omega | (simp only [Bool.and_eq_true, Bool.or_eq_false_iff, Bool.not_eq_true', Bool.not_eq_false', decide_eq_true_eq, decide_eq_false_iff_not] at hg; omega))) ?_
  refine AWL.ygT rfl rfl rfl rfl (B rfl) (Yv.leq rfl (Eg rfl rfl id) (Eg rfl rfl id)) ?_
  refine AWL.y rfl rfl (B rfl) (Yv.pickAnd rfl (E rfl rfl) (Eg rfl rfl id)) ?_
  refine AWL.y rfl rfl (B rfl) (Yv.assign rfl (E rfl rfl)) ?_
  refine AWL.nil ?_
  refine AW.ret (retI (.tmp rfl .nil) ?_)
  rfl

set_option maxHeartbeats 400000 in
theorem within37 (bs : List UInt8) (a m : Int) (h1 : bs.length ≤ 9223372036854775807) (h2 : 0 ≤ a) (h3 : 0 ≤ m) (h4 : a ≤ 18446744073709551615) :
    ACalls Try.prog 37 [u8s bs, .v (.int .u64 a), .v (.int .u64 m)] [] fun t S => t = .v (.bool (decide (a ≤ (bs.length : Int)) && decide (m ≤ (bs.length : Int) - a))) := by
  refine ACalls.intro Try.func37 rfl Try.ntmps37 (Nat.le_of_ble_eq_true rfl) rfl fun X w0 => ?_
  refine AW.rseq ?_
  refine AWL.y rfl rfl (B rfl) (Yv.assign rfl (E rfl rfl)) ?_
  refine AWL.nil ?_
  refine AW.rseq ?_
  refine AWL.y rfl rfl (B rfl) (Yv.move rfl (E rfl rfl)) ?_
  refine AWL.y rfl rfl (B rfl) (Yv.lenSl rfl so_27 (B rfl) (E rfl rfl) len_u8s) ?_
  refine AWL.y rfl rfl (B rfl) (Yv.convN_u64 rfl Try.underlying3 kd_22 (E rfl rfl) (fun hg => by omega)) ?_
  refine AWL.y rfl rfl (B rfl) (Yv.assign rfl (E rfl rfl)) ?_
  refine AWL.nil ?_
  refine AW.rseq ?_
  refine AWL.y rfl rfl (B rfl) (Yv.move rfl (E rfl rfl)) ?_
  refine AWL.y rfl rfl (B rfl) (Yv.move rfl (E rfl rfl)) ?_
  refine AWL.y rfl rfl (B rfl) (Yv.leq rfl (E rfl rfl) (E rfl rfl)) ?_
  refine AWL.y rfl rfl (B rfl) (Yv.move rfl (E rfl rfl)) ?_
  refine AWL.ygT rfl rfl rfl rfl (B rfl) (Yv.move rfl (E rfl rfl)) ?_
  refine AWL.ygT rfl rfl rfl rfl (B rfl) (Yv.move rfl (E rfl rfl)) ?_
  refine AWL.ygT rfl rfl rfl rfl (B rfl) (Yv.move rfl (E rfl rfl)) ?_
  refine AWL.ygT rfl rfl rfl rfl (B rfl) (Yv.subN_u64 rfl (Eg rfl rfl id) (Eg rfl rfl id) (fun hg => by first | omega | (simp only [Bool.and_eq_true, Bool.or_eq_false_iff, Bool.not_eq_true', Bool.not_eq_false', decide_eq_true_eq, decide_eq_false_iff_not] at hg; omega))) ?_
  refine AWL.ygT rfl rfl rfl rfl (B rfl) (Yv.leq rfl (Eg rfl rfl id) (Eg rfl rfl id)) ?_
  refine AWL.y rfl rfl (B rfl) (Yv.pickAnd rfl (E rfl rfl) (Eg rfl rfl id)) ?_
  refine AWL.y rfl rfl (B rfl) (Yv.assign rfl (E rfl rfl)) ?_
  refine AWL.nil ?_
  refine AW.ret (retI (.tmp rfl .nil) ?_)
  rfl

set_option maxHeartbeats 400000 in
theorem flags23 (n : Int) (h0 : 0 ≤ n) (h1 : n ≤ 4294967295) :
    ACalls Try.prog 23 [.v (.int .i64 n)] [] fun t S => t = .v (.int .u32 n) := by
  refine ACalls.intro Try.func23 rfl Try.ntmps23 (Nat.le_of_ble_eq_true rfl) rfl fun X w0 => ?_
  refine AW.rseq ?_
  refine AWL.y rfl rfl (B rfl) (Yv.assign rfl (E rfl rfl)) ?_
  refine AWL.nil ?_
  refine AW.rseq ?_
  refine AWL.y rfl rfl (B rfl) (Yv.move rfl (E rfl rfl)) ?_
  refine AWL.y rfl rfl (B rfl) (Yv.convN_u32 rfl Try.underlying3 kd_45 (E rfl rfl) (fun hg => by omega)) ?_
  refine AWL.y rfl rfl (B rfl) (Yv.assign rfl (E rfl rfl)) ?_
  refine AWL.nil ?_
  refine AW.ret (retI (.tmp rfl .nil) ?_)
  rfl

set_option maxHeartbeats 400000 in
theorem size30 (x : Int) :
    ACalls Try.prog 30 [.v (.int .u32 x)] [] fun t S => t = .v (.int .i64 4) := by
  refine ACalls.intro Try.func30 rfl Try.ntmps30 (Nat.le_of_ble_eq_true rfl) rfl fun X w0 => ?_
  refine AW.rseq ?_
  refine AWL.y rfl rfl (B rfl) (Yv.assign rfl (E rfl rfl)) ?_
  refine AWL.nil ?_
  refine AW.rseq ?_
  refine AWL.y rfl rfl (B rfl) (Yv.assign rfl (E rfl rfl)) ?_
  refine AWL.nil ?_
  refine AW.seq ?_
  refine AW.rseq ?_
  refine AWL.y rfl rfl (B rfl) (Yv.convN_u32 rfl Try.underlying3 kd_45 (E rfl rfl) (fun hg => by omega)) ?_
  refine AWL.y rfl rfl (B rfl) (Yv.compl rfl (E rfl rfl)) ?_
  refine AWL.y rfl rfl (B rfl) (Yv.assign rfl (E rfl rfl)) ?_
  refine AWL.nil ?_
  refine AW.block ?_
  refine AW.loop (fun (j : Nat) => [(3, true, .v (.int .i64 (j : Int))), (4, true, .v (.int .u32 (4294967295 / 256 ^ j : Int)))]) (fun (j : Nat) => []) (fun (j : Nat) => j ≤ 4) (fun (j : Nat) => 4 - j) 0 ?_ ?_ ?_ ?_
  · exact Nat.zero_le _
  · exact Sub.cons rfl rfl (Sub.cons rfl (congrArg (fun q => T.v (.int .u32 q)) (by decide)) Sub.nil)
  · rfl
  ·
    intro j hinv
    have hr := div_range (m := 4294967295) 4294967295 j (by decide) (Int.le_refl _)
    have hjj := size_j30 j hinv
    obtain ⟨hj1, hj2, hj3⟩ := hjj
    refine AW.seq ?_
    refine AW.rseq ?_
    refine AWL.y rfl rfl (B rfl) (Yv.move rfl (E rfl rfl)) ?_
    refine AWL.y rfl rfl (B rfl) (Yv.gtr rfl (E rfl rfl) (E rfl rfl)) ?_
    refine AWL.nil ?_
    refine AW.cond rfl (fun h0t => ?_) (fun h0f => ?_)
    ·
      try replace h0t := of_decide_eq_true h0t
      refine AW.skip ?_
      refine AW.seq ?_
      refine AW.block ?_
      refine AW.region ?_
      refine AWL.y rfl rfl (B rfl) (Yv.move rfl (E rfl rfl)) ?_
      refine AWL.y rfl rfl (B rfl) (Yv.addN_i64 rfl (E rfl rfl) (E rfl rfl) (fun hg => by omega)) ?_
      refine AWL.y rfl rfl (B rfl) (Yv.assign rfl (E rfl rfl)) ?_
      refine AWL.nil ?_
      refine AW.region ?_
      refine AWL.y rfl rfl (B rfl) (Yv.move rfl (E rfl rfl)) ?_
      refine AWL.y rfl rfl (B rfl) (Yv.convN_u64 rfl Try.underlying45 kd_22 (E rfl rfl) (fun hg => by omega)) ?_
      refine AWL.y rfl rfl (B rfl) (Yv.shrC 256 (by decide) (by decide) (by decide) rfl (E rfl rfl) (E rfl rfl)) ?_
      refine AWL.y rfl rfl (B rfl) (Yv.convN_u32 rfl Try.underlying22 kd_45 (E rfl rfl) (fun hg => by omega)) ?_
      refine AWL.y rfl rfl (B rfl) (Yv.assign rfl (E rfl rfl)) ?_
      refine AWL.nil ?_
      refine ⟨j + 1, hj1 h0t, by have := hj1 h0t; omega, ?_, rfl⟩
      exact Sub.cons rfl (by simp) (Sub.cons rfl (by rw [hj2]) Sub.nil)
    ·
      try replace h0f := of_decide_eq_false h0f
      refine AW.exit ?_
      refine AW.rseq ?_
      refine AWL.y rfl rfl (B rfl) (Yv.move rfl (E rfl rfl)) ?_
      refine AWL.y rfl rfl (B rfl) (Yv.assign rfl (E rfl rfl)) ?_
      refine AWL.nil ?_
      refine AW.ret (retI (.tmp rfl .nil) ?_)
      have hj := hj3 h0f
      subst hj
      rfl

set_option maxHeartbeats 400000 in
theorem size31 (x : Int) :
    ACalls Try.prog 31 [.v (.int .u16 x)] [] fun t S => t = .v (.int .i64 2) := by
  refine ACalls.intro Try.func31 rfl Try.ntmps31 (Nat.le_of_ble_eq_true rfl) rfl fun X w0 => ?_
  refine AW.rseq ?_
  refine AWL.y rfl rfl (B rfl) (Yv.assign rfl (E rfl rfl)) ?_
  refine AWL.nil ?_
  refine AW.rseq ?_
  refine AWL.y rfl rfl (B rfl) (Yv.assign rfl (E rfl rfl)) ?_
  refine AWL.nil ?_
  refine AW.seq ?_
  refine AW.rseq ?_
  refine AWL.y rfl rfl (B rfl) (Yv.convN_u16 rfl Try.underlying3 kd_47 (E rfl rfl) (fun hg => by omega)) ?_
  refine AWL.y rfl rfl (B rfl) (Yv.compl rfl (E rfl rfl)) ?_
  refine AWL.y rfl rfl (B rfl) (Yv.assign rfl (E rfl rfl)) ?_
  refine AWL.nil ?_
  refine AW.block ?_
  refine AW.loop (fun (j : Nat) => [(3, true, .v (.int .i64 (j : Int))), (4, true, .v (.int .u16 (65535 / 256 ^ j : Int)))]) (fun (j : Nat) => []) (fun (j : Nat) => j ≤ 2) (fun (j : Nat) => 2 - j) 0 ?_ ?_ ?_ ?_
  · exact Nat.zero_le _
  · exact Sub.cons rfl rfl (Sub.cons rfl (congrArg (fun q => T.v (.int .u16 q)) (by decide)) Sub.nil)
  · rfl
  ·
    intro j hinv
    have hr := div_range (m := 65535) 65535 j (by decide) (Int.le_refl _)
    have hjj := size_j31 j hinv
    obtain ⟨hj1, hj2, hj3⟩ := hjj
    refine AW.seq ?_
    refine AW.rseq ?_
    refine AWL.y rfl rfl (B rfl) (Yv.move rfl (E rfl rfl)) ?_
    refine AWL.y rfl rfl (B rfl) (Yv.gtr rfl (E rfl rfl) (E rfl rfl)) ?_
    refine AWL.nil ?_
    refine AW.cond rfl (fun h0t => ?_) (fun h0f => ?_)
    ·
      try replace h0t := of_decide_eq_true h0t
      refine AW.skip ?_
      refine AW.seq ?_
      refine AW.block ?_
      refine AW.region ?_
      refine AWL.y rfl rfl (B rfl) (Yv.move rfl (E rfl rfl)) ?_
      refine AWL.y rfl rfl (B rfl) (Yv.addN_i64 rfl (E rfl rfl) (E rfl rfl) (fun hg => by omega)) ?_
      refine AWL.y rfl rfl (B rfl) (Yv.assign rfl (E rfl rfl)) ?_
      refine AWL.nil ?_
      refine AW.region ?_
      refine AWL.y rfl rfl (B rfl) (Yv.move rfl (E rfl rfl)) ?_
      refine AWL.y rfl rfl (B rfl) (Yv.convN_u64 rfl Try.underlying47 kd_22 (E rfl rfl) (fun hg => by omega)) ?_
      refine AWL.y rfl rfl (B rfl) (Yv.shrC 256 (by decide) (by decide) (by decide) rfl (E rfl rfl) (E rfl rfl)) ?_
      refine AWL.y rfl rfl (B rfl) (Yv.convN_u16 rfl Try.underlying22 kd_47 (E rfl rfl) (fun hg => by omega)) ?_
      refine AWL.y rfl rfl (B rfl) (Yv.assign rfl (E rfl rfl)) ?_
      refine AWL.nil ?_
      refine ⟨j + 1, hj1 h0t, by have := hj1 h0t; omega, ?_, rfl⟩
      exact Sub.cons rfl (by simp) (Sub.cons rfl (by rw [hj2]) Sub.nil)
    ·
      try replace h0f := of_decide_eq_false h0f
      refine AW.exit ?_
      refine AW.rseq ?_
      refine AWL.y rfl rfl (B rfl) (Yv.move rfl (E rfl rfl)) ?_
      refine AWL.y rfl rfl (B rfl) (Yv.assign rfl (E rfl rfl)) ?_
      refine AWL.nil ?_
      refine AW.ret (retI (.tmp rfl .nil) ?_)
      have hj := hj3 h0f
      subst hj
      rfl

set_option maxHeartbeats 400000 in
theorem size32 (x : Int) :
    ACalls Try.prog 32 [.v (.int .u64 x)] [] fun t S => t = .v (.int .i64 8) := by
  refine ACalls.intro Try.func32 rfl Try.ntmps32 (Nat.le_of_ble_eq_true rfl) rfl fun X w0 => ?_
  refine AW.rseq ?_
  refine AWL.y rfl rfl (B rfl) (Yv.assign rfl (E rfl rfl)) ?_
  refine AWL.nil ?_
  refine AW.rseq ?_
  refine AWL.y rfl rfl (B rfl) (Yv.assign rfl (E rfl rfl)) ?_
  refine AWL.nil ?_
  refine AW.seq ?_
  refine AW.rseq ?_
  refine AWL.y rfl rfl (B rfl) (Yv.convN_u64 rfl Try.underlying3 kd_22 (E rfl rfl) (fun hg => by omega)) ?_
  refine AWL.y rfl rfl (B rfl) (Yv.compl rfl (E rfl rfl)) ?_
  refine AWL.y rfl rfl (B rfl) (Yv.assign rfl (E rfl rfl)) ?_
  refine AWL.nil ?_
  refine AW.block ?_
  refine AW.loop (fun (j : Nat) => [(3, true, .v (.int .i64 (j : Int))), (4, true, .v (.int .u64 (18446744073709551615 / 256 ^ j : Int)))]) (fun (j : Nat) => []) (fun (j : Nat) => j ≤ 8) (fun (j : Nat) => 8 - j) 0 ?_ ?_ ?_ ?_
  · exact Nat.zero_le _
  · exact Sub.cons rfl rfl (Sub.cons rfl (congrArg (fun q => T.v (.int .u64 q)) (by decide)) Sub.nil)
  · rfl
  ·
    intro j hinv
    have hr := div_range (m := 18446744073709551615) 18446744073709551615 j (by decide) (Int.le_refl _)
    have hjj := size_j32 j hinv
    obtain ⟨hj1, hj2, hj3⟩ := hjj
    refine AW.seq ?_
    refine AW.rseq ?_
    refine AWL.y rfl rfl (B rfl) (Yv.move rfl (E rfl rfl)) ?_
    refine AWL.y rfl rfl (B rfl) (Yv.gtr rfl (E rfl rfl) (E rfl rfl)) ?_
    refine AWL.nil ?_
    refine AW.cond rfl (fun h0t => ?_) (fun h0f => ?_)
    ·
      try replace h0t := of_decide_eq_true h0t
      refine AW.skip ?_
      refine AW.seq ?_
      refine AW.block ?_
      refine AW.region ?_
      refine AWL.y rfl rfl (B rfl) (Yv.move rfl (E rfl rfl)) ?_
      refine AWL.y rfl rfl (B rfl) (Yv.addN_i64 rfl (E rfl rfl) (E rfl rfl) (fun hg => by omega)) ?_
      refine AWL.y rfl rfl (B rfl) (Yv.assign rfl (E rfl rfl)) ?_
      refine AWL.nil ?_
      refine AW.region ?_
      refine AWL.y rfl rfl (B rfl) (Yv.move rfl (E rfl rfl)) ?_
      refine AWL.y rfl rfl (B rfl) (Yv.shrC 256 (by decide) (by decide) (by decide) rfl (E rfl rfl) (E rfl rfl)) ?_
      refine AWL.y rfl rfl (B rfl) (Yv.assign rfl (E rfl rfl)) ?_
      refine AWL.nil ?_
      refine ⟨j + 1, hj1 h0t, by have := hj1 h0t; omega, ?_, rfl⟩
      exact Sub.cons rfl (by simp) (Sub.cons rfl (by rw [hj2]) Sub.nil)
    ·
      try replace h0f := of_decide_eq_false h0f
      refine AW.exit ?_
      refine AW.rseq ?_
      refine AWL.y rfl rfl (B rfl) (Yv.move rfl (E rfl rfl)) ?_
      refine AWL.y rfl rfl (B rfl) (Yv.assign rfl (E rfl rfl)) ?_
      refine AWL.nil ?_
      refine AW.ret (retI (.tmp rfl .nil) ?_)
      have hj := hj3 h0f
      subst hj
      rfl

set_option maxHeartbeats 400000 in
theorem put20 (bs : List UInt8) (A : Option Addr) (m c : Nat) (x : Int) (h0 : 0 ≤ x) (h1 : x ≤ 4294967295) (h2 : m ≤ 140737488355000) :
    ACalls Try.prog 20 [.v (.slice A m c), .v (.int .u32 x)] [.row A m c 5 1 (bs.map u8)] fun t S => ∃ A' c', t = .v (.slice A' (m + 4) c') ∧ S = [.row A' (m + 4) c' 5 1 ((bs ++ leBytes 4 x).map u8)] := by
  refine ACalls.intro Try.func20 rfl Try.ntmps20 (Nat.le_of_ble_eq_true rfl) rfl fun X w0 => ?_
  refine AW.rseq ?_
  refine AWL.y rfl rfl (B rfl) (Yv.assign rfl (E rfl rfl)) ?_
  refine AWL.nil ?_
  refine AW.seq ?_
  refine AW.rseq ?_
  refine AWL.y rfl rfl (B rfl) (Yv.move rfl (E rfl rfl)) ?_
  refine AWL.callP rfl rfl (B rfl) rfl ce_30 (E rfl rfl) (evsC (E rfl rfl) evs0) (size30 _) (fun t S h => h) ?_
  refine AWL.y rfl rfl (B rfl) (Yv.move rfl (E rfl rfl)) ?_
  refine AWL.nil ?_
  refine AW.block ?_
  refine AW.loop3 (fun (j : Nat) (A1 : Option Addr) (c1 : Nat) => [(0, true, .v (.slice A1 (m + j) c1)), (1, true, .v (.int .u32 (x / 256 ^ j : Int))), (6, true, .v (.int .i64 4)), (7, true, .v (.int .i64 (j : Int)))]) (fun (j : Nat) (A1 : Option Addr) (c1 : Nat) => [.row A1 (m + j) c1 5 1 ((bs ++ leBytes j x).map u8)]) (fun (j : Nat) (A1 : Option Addr) (c1 : Nat) => j ≤ 4) (fun (j : Nat) (A1 : Option Addr) (c1 : Nat) => 4 - j) 0 A c ?_ ?_ ?_ ?_
  · exact Nat.zero_le _
  · exact Sub.cons rfl rfl (Sub.cons rfl (by simp) (Sub.cons rfl rfl (Sub.cons rfl rfl Sub.nil)))
  · simp [leBytes]
  ·
    intro j A1 c1 hinv
    have hjx := div_range x j h0 h1
    refine AW.rseq ?_
    refine AWL.y rfl rfl (B rfl) (Yv.lss rfl (E rfl rfl) (E rfl rfl)) ?_
    refine AWL.nil ?_
    refine AW.seq ?_
    refine AW.cond rfl (fun h0t => ?_) (fun h0f => ?_)
    ·
      try replace h0t := of_decide_eq_true h0t
      refine AW.skip ?_
      refine AW.seq ?_
      refine AW.block ?_
      refine AW.rseq ?_
      refine AWL.y rfl rfl (B rfl) (Yv.move rfl (E rfl rfl)) ?_
      refine AWL.y rfl rfl (B rfl) (Yv.move rfl (E rfl rfl)) ?_
      refine AWL.y rfl rfl (B rfl) (Yv.conv rfl Try.underlying45 kd_5 (E rfl rfl)) ?_
      refine AWL.buildSlice1 rfl rfl (B rfl) rfl el_27 rfl (evsC (E rfl rfl) evs0) (Nat.le_of_ble_eq_true rfl) rfl rfl ?_
      refine AWL.appendRow (i := 0) rfl rfl (B rfl) rfl el_27 (B rfl) rfl (E rfl rfl) (SrcT.sl so_27 (B rfl) (E rfl rfl) rfl) (by unfold maxLen; omega) (by omega) (fun A13 c13 => ?_)
      refine AWL.y rfl rfl (B rfl) (Yv.assign rfl (E rfl rfl)) ?_
      refine AWL.nil ?_
      refine AW.region ?_
      refine AWL.y rfl rfl (B rfl) (Yv.move rfl (E rfl rfl)) ?_
      refine AWL.y rfl rfl (B rfl) (Yv.convN_u64 rfl Try.underlying45 kd_22 (E rfl rfl) (fun hg => by omega)) ?_
      refine AWL.y rfl rfl (B rfl) (Yv.shrC 256 (by decide) (by decide) (by decide) rfl (E rfl rfl) (E rfl rfl)) ?_
      refine AWL.y rfl rfl (B rfl) (Yv.convN_u32 rfl Try.underlying22 kd_45 (E rfl rfl) (fun hg => by omega)) ?_
      refine AWL.y rfl rfl (B rfl) (Yv.assign rfl (E rfl rfl)) ?_
      refine AWL.nil ?_
      refine AW.region ?_
      refine AWL.y rfl rfl (B rfl) (Yv.addN_i64 rfl (E rfl rfl) (E rfl rfl) (fun hg => by omega)) ?_
      refine AWL.y rfl rfl (B rfl) (Yv.move rfl (E rfl rfl)) ?_
      refine AWL.nil ?_
      refine ⟨j + 1, A13, c13, by omega, by omega, ?_, ?_⟩
      · exact Sub.cons rfl rfl (Sub.cons rfl (by simp only [div_succ]) (Sub.cons rfl rfl (Sub.cons rfl (by simp) Sub.nil)))
      · simp only [leBytes_succ, u8_wrap, List.set_cons_zero, ← List.append_assoc, List.map_append, List.map_cons, List.map_nil]; rfl
    ·
      try replace h0f := of_decide_eq_false h0f
      refine AW.exit ?_
      refine AW.rseq ?_
      refine AWL.y rfl rfl (B rfl) (Yv.move rfl (E rfl rfl)) ?_
      refine AWL.y rfl rfl (B rfl) (Yv.assign rfl (E rfl rfl)) ?_
      refine AWL.nil ?_
      refine AW.ret (retI (.tmp rfl .nil) ?_)
      have hj : j = 4 := by omega
      subst hj
      exact ⟨A1, c1, rfl, rfl⟩

set_option maxHeartbeats 400000 in
theorem put21 (bs : List UInt8) (A : Option Addr) (m c : Nat) (x : Int) (h0 : 0 ≤ x) (h1 : x ≤ 65535) (h2 : m ≤ 140737488355000) :
    ACalls Try.prog 21 [.v (.slice A m c), .v (.int .u16 x)] [.row A m c 5 1 (bs.map u8)] fun t S => ∃ A' c', t = .v (.slice A' (m + 2) c') ∧ S = [.row A' (m + 2) c' 5 1 ((bs ++ leBytes 2 x).map u8)] := by
  refine ACalls.intro Try.func21 rfl Try.ntmps21 (Nat.le_of_ble_eq_true rfl) rfl fun X w0 => ?_
  refine AW.rseq ?_
  refine AWL.y rfl rfl (B rfl) (Yv.assign rfl (E rfl rfl)) ?_
  refine AWL.nil ?_
  refine AW.seq ?_
  refine AW.rseq ?_
  refine AWL.y rfl rfl (B rfl) (Yv.move rfl (E rfl rfl)) ?_
  refine AWL.callP rfl rfl (B rfl) rfl ce_31 (E rfl rfl) (evsC (E rfl rfl) evs0) (size31 _) (fun t S h => h) ?_
  refine AWL.y rfl rfl (B rfl) (Yv.move rfl (E rfl rfl)) ?_
  refine AWL.nil ?_
  refine AW.block ?_
  refine AW.loop3 (fun (j : Nat) (A1 : Option Addr) (c1 : Nat) => [(0, true, .v (.slice A1 (m + j) c1)), (1, true, .v (.int .u16 (x / 256 ^ j : Int))), (6, true, .v (.int .i64 2)), (7, true, .v (.int .i64 (j : Int)))]) (fun (j : Nat) (A1 : Option Addr) (c1 : Nat) => [.row A1 (m + j) c1 5 1 ((bs ++ leBytes j x).map u8)]) (fun (j : Nat) (A1 : Option Addr) (c1 : Nat) => j ≤ 2) (fun (j : Nat) (A1 : Option Addr) (c1 : Nat) => 2 - j) 0 A c ?_ ?_ ?_ ?_
  · exact Nat.zero_le _
  · exact Sub.cons rfl rfl (Sub.cons rfl (by simp) (Sub.cons rfl rfl (Sub.cons rfl rfl Sub.nil)))
  · simp [leBytes]
  ·
    intro j A1 c1 hinv
    have hjx := div_range x j h0 h1
    refine AW.rseq ?_
    refine AWL.y rfl rfl (B rfl) (Yv.lss rfl (E rfl rfl) (E rfl rfl)) ?_
    refine AWL.nil ?_
    refine AW.seq ?_
    refine AW.cond rfl (fun h0t => ?_) (fun h0f => ?_)
    ·
      try replace h0t := of_decide_eq_true h0t
      refine AW.skip ?_
      refine AW.seq ?_
      refine AW.block ?_
      refine AW.rseq ?_
      refine AWL.y rfl rfl (B rfl) (Yv.move rfl (E rfl rfl)) ?_
      refine AWL.y rfl rfl (B rfl) (Yv.move rfl (E rfl rfl)) ?_
      refine AWL.y rfl rfl (B rfl) (Yv.conv rfl Try.underlying47 kd_5 (E rfl rfl)) ?_
      refine AWL.buildSlice1 rfl rfl (B rfl) rfl el_27 rfl (evsC (E rfl rfl) evs0) (Nat.le_of_ble_eq_true rfl) rfl rfl ?_
      refine AWL.appendRow (i := 0) rfl rfl (B rfl) rfl el_27 (B rfl) rfl (E rfl rfl) (SrcT.sl so_27 (B rfl) (E rfl rfl) rfl) (by unfold maxLen; omega) (by omega) (fun A13 c13 => ?_)
      refine AWL.y rfl rfl (B rfl) (Yv.assign rfl (E rfl rfl)) ?_
      refine AWL.nil ?_
      refine AW.region ?_
      refine AWL.y rfl rfl (B rfl) (Yv.move rfl (E rfl rfl)) ?_
      refine AWL.y rfl rfl (B rfl) (Yv.convN_u64 rfl Try.underlying47 kd_22 (E rfl rfl) (fun hg => by omega)) ?_
      refine AWL.y rfl rfl (B rfl) (Yv.shrC 256 (by decide) (by decide) (by decide) rfl (E rfl rfl) (E rfl rfl)) ?_
      refine AWL.y rfl rfl (B rfl) (Yv.convN_u16 rfl Try.underlying22 kd_47 (E rfl rfl) (fun hg => by omega)) ?_
      refine AWL.y rfl rfl (B rfl) (Yv.assign rfl (E rfl rfl)) ?_
      refine AWL.nil ?_
      refine AW.region ?_
      refine AWL.y rfl rfl (B rfl) (Yv.addN_i64 rfl (E rfl rfl) (E rfl rfl) (fun hg => by omega)) ?_
      refine AWL.y rfl rfl (B rfl) (Yv.move rfl (E rfl rfl)) ?_
      refine AWL.nil ?_
      refine ⟨j + 1, A13, c13, by omega, by omega, ?_, ?_⟩
      · exact Sub.cons rfl rfl (Sub.cons rfl (by simp only [div_succ]) (Sub.cons rfl rfl (Sub.cons rfl (by simp) Sub.nil)))
      · simp only [leBytes_succ, u8_wrap, List.set_cons_zero, ← List.append_assoc, List.map_append, List.map_cons, List.map_nil]; rfl
    ·
      try replace h0f := of_decide_eq_false h0f
      refine AW.exit ?_
      refine AW.rseq ?_
      refine AWL.y rfl rfl (B rfl) (Yv.move rfl (E rfl rfl)) ?_
      refine AWL.y rfl rfl (B rfl) (Yv.assign rfl (E rfl rfl)) ?_
      refine AWL.nil ?_
      refine AW.ret (retI (.tmp rfl .nil) ?_)
      have hj : j = 2 := by omega
      subst hj
      exact ⟨A1, c1, rfl, rfl⟩

set_option maxHeartbeats 400000 in
theorem put22 (bs : List UInt8) (A : Option Addr) (m c : Nat) (x : Int) (h0 : 0 ≤ x) (h1 : x ≤ 18446744073709551615) (h2 : m ≤ 140737488355000) :
    ACalls Try.prog 22 [.v (.slice A m c), .v (.int .u64 x)] [.row A m c 5 1 (bs.map u8)] fun t S => ∃ A' c', t = .v (.slice A' (m + 8) c') ∧ S = [.row A' (m + 8) c' 5 1 ((bs ++ leBytes 8 x).map u8)] := by
  refine ACalls.intro Try.func22 rfl Try.ntmps22 (Nat.le_of_ble_eq_true rfl) rfl fun X w0 => ?_
  refine AW.rseq ?_
  refine AWL.y rfl rfl (B rfl) (Yv.assign rfl (E rfl rfl)) ?_
  refine AWL.nil ?_
  refine AW.seq ?_
  refine AW.rseq ?_
  refine AWL.y rfl rfl (B rfl) (Yv.move rfl (E rfl rfl)) ?_
  refine AWL.callP rfl rfl (B rfl) rfl ce_32 (E rfl rfl) (evsC (E rfl rfl) evs0) (size32 _) (fun t S h => h) ?_
  refine AWL.y rfl rfl (B rfl) (Yv.move rfl (E rfl rfl)) ?_
  refine AWL.nil ?_
  refine AW.block ?_
  refine AW.loop3 (fun (j : Nat) (A1 : Option Addr) (c1 : Nat) => [(0, true, .v (.slice A1 (m + j) c1)), (1, true, .v (.int .u64 (x / 256 ^ j : Int))), (6, true, .v (.int .i64 8)), (7, true, .v (.int .i64 (j : Int)))]) (fun (j : Nat) (A1 : Option Addr) (c1 : Nat) => [.row A1 (m + j) c1 5 1 ((bs ++ leBytes j x).map u8)]) (fun (j : Nat) (A1 : Option Addr) (c1 : Nat) => j ≤ 8) (fun (j : Nat) (A1 : Option Addr) (c1 : Nat) => 8 - j) 0 A c ?_ ?_ ?_ ?_
  · exact Nat.zero_le _
  · exact Sub.cons rfl rfl (Sub.cons rfl (by simp) (Sub.cons rfl rfl (Sub.cons rfl rfl Sub.nil)))
  · simp [leBytes]
  ·
    intro j A1 c1 hinv
    have hjx := div_range x j h0 h1
    refine AW.rseq ?_
    refine AWL.y rfl rfl (B rfl) (Yv.lss rfl (E rfl rfl) (E rfl rfl)) ?_
    refine AWL.nil ?_
    refine AW.seq ?_
    refine AW.cond rfl (fun h0t => ?_) (fun h0f => ?_)
    ·
      try replace h0t := of_decide_eq_true h0t
      refine AW.skip ?_
      refine AW.seq ?_
      refine AW.block ?_
      refine AW.rseq ?_
      refine AWL.y rfl rfl (B rfl) (Yv.move rfl (E rfl rfl)) ?_
      refine AWL.y rfl rfl (B rfl) (Yv.move rfl (E rfl rfl)) ?_
      refine AWL.y rfl rfl (B rfl) (Yv.conv rfl Try.underlying22 kd_5 (E rfl rfl)) ?_
      refine AWL.buildSlice1 rfl rfl (B rfl) rfl el_27 rfl (evsC (E rfl rfl) evs0) (Nat.le_of_ble_eq_true rfl) rfl rfl ?_
      refine AWL.appendRow (i := 0) rfl rfl (B rfl) rfl el_27 (B rfl) rfl (E rfl rfl) (SrcT.sl so_27 (B rfl) (E rfl rfl) rfl) (by unfold maxLen; omega) (by omega) (fun A13 c13 => ?_)
      refine AWL.y rfl rfl (B rfl) (Yv.assign rfl (E rfl rfl)) ?_
      refine AWL.nil ?_
      refine AW.region ?_
      refine AWL.y rfl rfl (B rfl) (Yv.move rfl (E rfl rfl)) ?_
      refine AWL.y rfl rfl (B rfl) (Yv.shrC 256 (by decide) (by decide) (by decide) rfl (E rfl rfl) (E rfl rfl)) ?_
      refine AWL.y rfl rfl (B rfl) (Yv.assign rfl (E rfl rfl)) ?_
      refine AWL.nil ?_
      refine AW.region ?_
      refine AWL.y rfl rfl (B rfl) (Yv.addN_i64 rfl (E rfl rfl) (E rfl rfl) (fun hg => by omega)) ?_
      refine AWL.y rfl rfl (B rfl) (Yv.move rfl (E rfl rfl)) ?_
      refine AWL.nil ?_
      refine ⟨j + 1, A13, c13, by omega, by omega, ?_, ?_⟩
      · exact Sub.cons rfl rfl (Sub.cons rfl (by simp only [div_succ]) (Sub.cons rfl rfl (Sub.cons rfl (by simp) Sub.nil)))
      · simp only [leBytes_succ, u8_wrap, List.set_cons_zero, ← List.append_assoc, List.map_append, List.map_cons, List.map_nil]; rfl
    ·
      try replace h0f := of_decide_eq_false h0f
      refine AW.exit ?_
      refine AW.rseq ?_
      refine AWL.y rfl rfl (B rfl) (Yv.move rfl (E rfl rfl)) ?_
      refine AWL.y rfl rfl (B rfl) (Yv.assign rfl (E rfl rfl)) ?_
      refine AWL.nil ?_
      refine AW.ret (retI (.tmp rfl .nil) ?_)
      have hj : j = 8 := by omega
      subst hj
      exact ⟨A1, c1, rfl, rfl⟩

set_option maxHeartbeats 400000 in
theorem take35 (bs : List UInt8) (a : Int) (h0 : 0 ≤ a) (h1 : a + 4 ≤ bs.length) (h2 : bs.length ≤ 140737488355000) :
    ACalls Try.prog 35 [u8s bs, .v (.int .u64 a)] [] fun t S => t = .v (.int .u32 (num bs a 4)) := by
  refine ACalls.intro Try.func35 rfl Try.ntmps35 (Nat.le_of_ble_eq_true rfl) rfl fun X w0 => ?_
  refine AW.rseq ?_
  refine AWL.y rfl rfl (B rfl) (Yv.assign rfl (E rfl rfl)) ?_
  refine AWL.nil ?_
  refine AW.rseq ?_
  refine AWL.y rfl rfl (B rfl) (Yv.assign rfl (E rfl rfl)) ?_
  refine AWL.nil ?_
  refine AW.seq ?_
  refine AW.rseq ?_
  refine AWL.y rfl rfl (B rfl) (Yv.convN_u32 rfl Try.underlying3 kd_45 (E rfl rfl) (fun hg => by omega)) ?_
  refine AWL.callP rfl rfl (B rfl) rfl ce_30 (E rfl rfl) (evsC (E rfl rfl) evs0) (size30 _) (fun t S h => h) ?_
  refine AWL.y rfl rfl (B rfl) (Yv.subN_i64 rfl (E rfl rfl) (E rfl rfl) (fun hg => by omega)) ?_
  refine AWL.y rfl rfl (B rfl) (Yv.assign rfl (E rfl rfl)) ?_
  refine AWL.nil ?_
  refine AW.block ?_
  refine AW.loop (fun (j : Nat) => [(0, true, u8s bs), (1, true, .v (.int .u64 a)), (5, true, .v (.int .u64 (leNum ((bs.drop (a.toNat + (4 - j))).take j)))), (6, true, .v (.int .i64 ((3 : Int) - j)))]) (fun (j : Nat) => []) (fun (j : Nat) => j ≤ 4) (fun (j : Nat) => 4 - j) 0 ?_ ?_ ?_ ?_
  · exact Nat.zero_le _
  · exact Sub.cons rfl rfl (Sub.cons rfl rfl (Sub.cons rfl (by simp [leNum]; rfl) (Sub.cons rfl rfl Sub.nil)))
  · rfl
  ·
    intro j hinv
    have hr := take_range bs (a.toNat + (4 - j)) j
    refine AW.seq ?_
    refine AW.rseq ?_
    refine AWL.y rfl rfl (B rfl) (Yv.move rfl (E rfl rfl)) ?_
    refine AWL.y rfl rfl (B rfl) (Yv.geq rfl (E rfl rfl) (E rfl rfl)) ?_
    refine AWL.nil ?_
    refine AW.cond rfl (fun h0t => ?_) (fun h0f => ?_)
    ·
      try replace h0t := of_decide_eq_true h0t
      have hp := pow_le j (by omega)
      refine AW.skip ?_
      refine AW.seq ?_
      refine AW.block ?_
      refine AW.region ?_
      refine AWL.y rfl rfl (B rfl) (Yv.move rfl (E rfl rfl)) ?_
      refine AWL.y rfl rfl (B rfl) (Yv.shlCN_u64 256 (by decide) (by decide) rfl (E rfl rfl) (E rfl rfl) (fun hg => by omega)) ?_
      refine AWL.y rfl rfl (B rfl) (Yv.move rfl (E rfl rfl)) ?_
      refine AWL.y rfl rfl (B rfl) (Yv.move rfl (E rfl rfl)) ?_
      refine AWL.y rfl rfl (B rfl) (Yv.move rfl (E rfl rfl)) ?_
      refine AWL.y rfl rfl (B rfl) (Yv.convN_u64 rfl Try.underlying3 kd_22 (E rfl rfl) (fun hg => by omega)) ?_
      refine AWL.y rfl rfl (B rfl) (Yv.addN_u64 rfl (E rfl rfl) (E rfl rfl) (fun hg => by omega)) ?_
      refine AWL.y rfl rfl (B rfl) (Yv.indexSl (j := a.toNat + (4 - 1 - j)) rfl ss_27 (B rfl) (E rfl rfl) (E rfl rfl) (fun hg => ⟨by omega, by simp only [List.length_map, Nat.mul_one]; omega⟩)) ?_
      refine AWL.y rfl rfl (B rfl) (Yv.loadRp rfl ag_5 (E rfl rfl) (fun hg => u8_get (by omega))) ?_
      refine AWL.y rfl rfl (B rfl) (Yv.convU8 rfl Try.underlying5 kd_22 rfl (E rfl rfl)) ?_
      refine AWL.y rfl rfl (B rfl) (Yv.bits rfl rfl (E rfl rfl) (E rfl rfl)) ?_
      refine AWL.y rfl rfl (B rfl) (Yv.assign rfl (E rfl rfl)) ?_
      refine AWL.nil ?_
      refine AW.region ?_
      refine AWL.y rfl rfl (B rfl) (Yv.move rfl (E rfl rfl)) ?_
      refine AWL.y rfl rfl (B rfl) (Yv.subN_i64 rfl (E rfl rfl) (E rfl rfl) (fun hg => by omega)) ?_
      refine AWL.y rfl rfl (B rfl) (Yv.assign rfl (E rfl rfl)) ?_
      refine AWL.nil ?_
      refine ⟨j + 1, by omega, by omega, Sub.cons rfl rfl (Sub.cons rfl rfl (Sub.cons rfl ?_ (Sub.cons rfl ?_ Sub.nil))), rfl⟩
      · rw [or_u64 _ _ hr.1 (by omega), take_step bs a 4 j (by omega) (by omega)]
      · congr 2; omega
    ·
      try replace h0f := of_decide_eq_false h0f
      refine AW.exit ?_
      refine AW.rseq ?_
      refine AWL.y rfl rfl (B rfl) (Yv.move rfl (E rfl rfl)) ?_
      refine AWL.y rfl rfl (B rfl) (Yv.conv rfl Try.underlying22 kd_45 (E rfl rfl)) ?_
      refine AWL.y rfl rfl (B rfl) (Yv.assign rfl (E rfl rfl)) ?_
      refine AWL.nil ?_
      refine AW.ret (retI (.tmp rfl .nil) ?_)
      have hj : j = 4 := by omega
      subst hj
      have hr := take_range bs a.toNat 4
      simp only [Nat.sub_self, Nat.add_zero]
      first | rfl | (rw [IntWalk.u32_in _ (by omega)]; rfl)

set_option maxHeartbeats 400000 in
theorem take34 (bs : List UInt8) (a : Int) (h0 : 0 ≤ a) (h1 : a + 2 ≤ bs.length) (h2 : bs.length ≤ 140737488355000) :
    ACalls Try.prog 34 [u8s bs, .v (.int .u64 a)] [] fun t S => t = .v (.int .u16 (num bs a 2)) := by
  refine ACalls.intro Try.func34 rfl Try.ntmps34 (Nat.le_of_ble_eq_true rfl) rfl fun X w0 => ?_
  refine AW.rseq ?_
  refine AWL.y rfl rfl (B rfl) (Yv.assign rfl (E rfl rfl)) ?_
  refine AWL.nil ?_
  refine AW.rseq ?_
  refine AWL.y rfl rfl (B rfl) (Yv.assign rfl (E rfl rfl)) ?_
  refine AWL.nil ?_
  refine AW.seq ?_
  refine AW.rseq ?_
  refine AWL.y rfl rfl (B rfl) (Yv.convN_u16 rfl Try.underlying3 kd_47 (E rfl rfl) (fun hg => by omega)) ?_
  refine AWL.callP rfl rfl (B rfl) rfl ce_31 (E rfl rfl) (evsC (E rfl rfl) evs0) (size31 _) (fun t S h => h) ?_
  refine AWL.y rfl rfl (B rfl) (Yv.subN_i64 rfl (E rfl rfl) (E rfl rfl) (fun hg => by omega)) ?_
  refine AWL.y rfl rfl (B rfl) (Yv.assign rfl (E rfl rfl)) ?_
  refine AWL.nil ?_
  refine AW.block ?_
  refine AW.loop (fun (j : Nat) => [(0, true, u8s bs), (1, true, .v (.int .u64 a)), (5, true, .v (.int .u64 (leNum ((bs.drop (a.toNat + (2 - j))).take j)))), (6, true, .v (.int .i64 ((1 : Int) - j)))]) (fun (j : Nat) => []) (fun (j : Nat) => j ≤ 2) (fun (j : Nat) => 2 - j) 0 ?_ ?_ ?_ ?_
  · exact Nat.zero_le _
  · exact Sub.cons rfl rfl (Sub.cons rfl rfl (Sub.cons rfl (by simp [leNum]; rfl) (Sub.cons rfl rfl Sub.nil)))
  · rfl
  ·
    intro j hinv
    have hr := take_range bs (a.toNat + (2 - j)) j
    refine AW.seq ?_
    refine AW.rseq ?_
    refine AWL.y rfl rfl (B rfl) (Yv.move rfl (E rfl rfl)) ?_
    refine AWL.y rfl rfl (B rfl) (Yv.geq rfl (E rfl rfl) (E rfl rfl)) ?_
    refine AWL.nil ?_
    refine AW.cond rfl (fun h0t => ?_) (fun h0f => ?_)
    ·
      try replace h0t := of_decide_eq_true h0t
      have hp := pow_le j (by omega)
      refine AW.skip ?_
      refine AW.seq ?_
      refine AW.block ?_
      refine AW.region ?_
      refine AWL.y rfl rfl (B rfl) (Yv.move rfl (E rfl rfl)) ?_
      refine AWL.y rfl rfl (B rfl) (Yv.shlCN_u64 256 (by decide) (by decide) rfl (E rfl rfl) (E rfl rfl) (fun hg => by omega)) ?_
      refine AWL.y rfl rfl (B rfl) (Yv.move rfl (E rfl rfl)) ?_
      refine AWL.y rfl rfl (B rfl) (Yv.move rfl (E rfl rfl)) ?_
      refine AWL.y rfl rfl (B rfl) (Yv.move rfl (E rfl rfl)) ?_
      refine AWL.y rfl rfl (B rfl) (Yv.convN_u64 rfl Try.underlying3 kd_22 (E rfl rfl) (fun hg => by omega)) ?_
      refine AWL.y rfl rfl (B rfl) (Yv.addN_u64 rfl (E rfl rfl) (E rfl rfl) (fun hg => by omega)) ?_
      refine AWL.y rfl rfl (B rfl) (Yv.indexSl (j := a.toNat + (2 - 1 - j)) rfl ss_27 (B rfl) (E rfl rfl) (E rfl rfl) (fun hg => ⟨by omega, by simp only [List.length_map, Nat.mul_one]; omega⟩)) ?_
      refine AWL.y rfl rfl (B rfl) (Yv.loadRp rfl ag_5 (E rfl rfl) (fun hg => u8_get (by omega))) ?_
      refine AWL.y rfl rfl (B rfl) (Yv.convU8 rfl Try.underlying5 kd_22 rfl (E rfl rfl)) ?_
      refine AWL.y rfl rfl (B rfl) (Yv.bits rfl rfl (E rfl rfl) (E rfl rfl)) ?_
      refine AWL.y rfl rfl (B rfl) (Yv.assign rfl (E rfl rfl)) ?_
      refine AWL.nil ?_
      refine AW.region ?_
      refine AWL.y rfl rfl (B rfl) (Yv.move rfl (E rfl rfl)) ?_
      refine AWL.y rfl rfl (B rfl) (Yv.subN_i64 rfl (E rfl rfl) (E rfl rfl) (fun hg => by omega)) ?_
      refine AWL.y rfl rfl (B rfl) (Yv.assign rfl (E rfl rfl)) ?_
      refine AWL.nil ?_
      refine ⟨j + 1, by omega, by omega, Sub.cons rfl rfl (Sub.cons rfl rfl (Sub.cons rfl ?_ (Sub.cons rfl ?_ Sub.nil))), rfl⟩
      · rw [or_u64 _ _ hr.1 (by omega), take_step bs a 2 j (by omega) (by omega)]
      · congr 2; omega
    ·
      try replace h0f := of_decide_eq_false h0f
      refine AW.exit ?_
      refine AW.rseq ?_
      refine AWL.y rfl rfl (B rfl) (Yv.move rfl (E rfl rfl)) ?_
      refine AWL.y rfl rfl (B rfl) (Yv.conv rfl Try.underlying22 kd_47 (E rfl rfl)) ?_
      refine AWL.y rfl rfl (B rfl) (Yv.assign rfl (E rfl rfl)) ?_
      refine AWL.nil ?_
      refine AW.ret (retI (.tmp rfl .nil) ?_)
      have hj : j = 2 := by omega
      subst hj
      have hr := take_range bs a.toNat 2
      simp only [Nat.sub_self, Nat.add_zero]
      first | rfl | (rw [IntWalk.u16_in _ (by omega)]; rfl)

set_option maxHeartbeats 400000 in
theorem take36 (bs : List UInt8) (a : Int) (h0 : 0 ≤ a) (h1 : a + 8 ≤ bs.length) (h2 : bs.length ≤ 140737488355000) :
    ACalls Try.prog 36 [u8s bs, .v (.int .u64 a)] [] fun t S => t = .v (.int .u64 (num bs a 8)) := by
  refine ACalls.intro Try.func36 rfl Try.ntmps36 (Nat.le_of_ble_eq_true rfl) rfl fun X w0 => ?_
  refine AW.rseq ?_
  refine AWL.y rfl rfl (B rfl) (Yv.assign rfl (E rfl rfl)) ?_
  refine AWL.nil ?_
  refine AW.rseq ?_
  refine AWL.y rfl rfl (B rfl) (Yv.assign rfl (E rfl rfl)) ?_
  refine AWL.nil ?_
  refine AW.seq ?_
  refine AW.rseq ?_
  refine AWL.y rfl rfl (B rfl) (Yv.convN_u64 rfl Try.underlying3 kd_22 (E rfl rfl) (fun hg => by omega)) ?_
  refine AWL.callP rfl rfl (B rfl) rfl ce_32 (E rfl rfl) (evsC (E rfl rfl) evs0) (size32 _) (fun t S h => h) ?_
  refine AWL.y rfl rfl (B rfl) (Yv.subN_i64 rfl (E rfl rfl) (E rfl rfl) (fun hg => by omega)) ?_
  refine AWL.y rfl rfl (B rfl) (Yv.assign rfl (E rfl rfl)) ?_
  refine AWL.nil ?_
  refine AW.block ?_
  refine AW.loop (fun (j : Nat) => [(0, true, u8s bs), (1, true, .v (.int .u64 a)), (5, true, .v (.int .u64 (leNum ((bs.drop (a.toNat + (8 - j))).take j)))), (6, true, .v (.int .i64 ((7 : Int) - j)))]) (fun (j : Nat) => []) (fun (j : Nat) => j ≤ 8) (fun (j : Nat) => 8 - j) 0 ?_ ?_ ?_ ?_
  · exact Nat.zero_le _
  · exact Sub.cons rfl rfl (Sub.cons rfl rfl (Sub.cons rfl (by simp [leNum]; rfl) (Sub.cons rfl rfl Sub.nil)))
  · rfl
  ·
    intro j hinv
    have hr := take_range bs (a.toNat + (8 - j)) j
    refine AW.seq ?_
    refine AW.rseq ?_
    refine AWL.y rfl rfl (B rfl) (Yv.move rfl (E rfl rfl)) ?_
    refine AWL.y rfl rfl (B rfl) (Yv.geq rfl (E rfl rfl) (E rfl rfl)) ?_
    refine AWL.nil ?_
    refine AW.cond rfl (fun h0t => ?_) (fun h0f => ?_)
    ·
      try replace h0t := of_decide_eq_true h0t
      have hp := pow_le j (by omega)
      refine AW.skip ?_
      refine AW.seq ?_
      refine AW.block ?_
      refine AW.region ?_
      refine AWL.y rfl rfl (B rfl) (Yv.move rfl (E rfl rfl)) ?_
      refine AWL.y rfl rfl (B rfl) (Yv.shlCN_u64 256 (by decide) (by decide) rfl (E rfl rfl) (E rfl rfl) (fun hg => by omega)) ?_
      refine AWL.y rfl rfl (B rfl) (Yv.move rfl (E rfl rfl)) ?_
      refine AWL.y rfl rfl (B rfl) (Yv.move rfl (E rfl rfl)) ?_
      refine AWL.y rfl rfl (B rfl) (Yv.move rfl (E rfl rfl)) ?_
      refine AWL.y rfl rfl (B rfl) (Yv.convN_u64 rfl Try.underlying3 kd_22 (E rfl rfl) (fun hg => by omega)) ?_
      refine AWL.y rfl rfl (B rfl) (Yv.addN_u64 rfl (E rfl rfl) (E rfl rfl) (fun hg => by omega)) ?_
      refine AWL.y rfl rfl (B rfl) (Yv.indexSl (j := a.toNat + (8 - 1 - j)) rfl ss_27 (B rfl) (E rfl rfl) (E rfl rfl) (fun hg => ⟨by omega, by simp only [List.length_map, Nat.mul_one]; omega⟩)) ?_
      refine AWL.y rfl rfl (B rfl) (Yv.loadRp rfl ag_5 (E rfl rfl) (fun hg => u8_get (by omega))) ?_
      refine AWL.y rfl rfl (B rfl) (Yv.convU8 rfl Try.underlying5 kd_22 rfl (E rfl rfl)) ?_
      refine AWL.y rfl rfl (B rfl) (Yv.bits rfl rfl (E rfl rfl) (E rfl rfl)) ?_
      refine AWL.y rfl rfl (B rfl) (Yv.assign rfl (E rfl rfl)) ?_
      refine AWL.nil ?_
      refine AW.region ?_
      refine AWL.y rfl rfl (B rfl) (Yv.move rfl (E rfl rfl)) ?_
      refine AWL.y rfl rfl (B rfl) (Yv.subN_i64 rfl (E rfl rfl) (E rfl rfl) (fun hg => by omega)) ?_
      refine AWL.y rfl rfl (B rfl) (Yv.assign rfl (E rfl rfl)) ?_
      refine AWL.nil ?_
      refine ⟨j + 1, by omega, by omega, Sub.cons rfl rfl (Sub.cons rfl rfl (Sub.cons rfl ?_ (Sub.cons rfl ?_ Sub.nil))), rfl⟩
      · rw [or_u64 _ _ hr.1 (by omega), take_step bs a 8 j (by omega) (by omega)]
      · congr 2; omega
    ·
      try replace h0f := of_decide_eq_false h0f
      refine AW.exit ?_
      refine AW.rseq ?_
      refine AWL.y rfl rfl (B rfl) (Yv.move rfl (E rfl rfl)) ?_
      refine AWL.y rfl rfl (B rfl) (Yv.assign rfl (E rfl rfl)) ?_
      refine AWL.nil ?_
      refine AW.ret (retI (.tmp rfl .nil) ?_)
      have hj : j = 8 := by omega
      subst hj
      have hr := take_range bs a.toNat 8
      simp only [Nat.sub_self, Nat.add_zero]
      first | rfl | (rw [IntWalk.u64_in _ (by omega)]; rfl)

set_option maxHeartbeats 400000 in
theorem take27 (bs : List UInt8) (a : Int) (n : Nat) (h0 : 0 ≤ a) (h1 : a + n ≤ bs.length) (h2 : bs.length ≤ 140737488355000) (h3 : n ≤ 8) :
    ACalls Try.prog 27 [u8s bs, .v (.int .u64 a), .v (.int .i64 (n : Int))] [] fun t S => t = .v (.int .u64 (num bs a n)) := by
  refine ACalls.intro Try.func27 rfl Try.ntmps27 (Nat.le_of_ble_eq_true rfl) rfl fun X w0 => ?_
  refine AW.rseq ?_
  refine AWL.y rfl rfl (B rfl) (Yv.assign rfl (E rfl rfl)) ?_
  refine AWL.nil ?_
  refine AW.rseq ?_
  refine AWL.y rfl rfl (B rfl) (Yv.assign rfl (E rfl rfl)) ?_
  refine AWL.nil ?_
  refine AW.seq ?_
  refine AW.rseq ?_
  refine AWL.y rfl rfl (B rfl) (Yv.move rfl (E rfl rfl)) ?_
  refine AWL.y rfl rfl (B rfl) (Yv.subN_i64 rfl (E rfl rfl) (E rfl rfl) (fun hg => by omega)) ?_
  refine AWL.y rfl rfl (B rfl) (Yv.assign rfl (E rfl rfl)) ?_
  refine AWL.nil ?_
  refine AW.block ?_
  refine AW.loop (fun (j : Nat) => [(0, true, u8s bs), (1, true, .v (.int .u64 a)), (7, true, .v (.int .u64 (leNum ((bs.drop (a.toNat + (n - j))).take j)))), (8, true, .v (.int .i64 ((n : Int) - 1 - j)))]) (fun (j : Nat) => []) (fun (j : Nat) => j ≤ n) (fun (j : Nat) => n - j) 0 ?_ ?_ ?_ ?_
  · exact Nat.zero_le _
  · exact Sub.cons rfl rfl (Sub.cons rfl rfl (Sub.cons rfl (by simp [leNum]; rfl) (Sub.cons rfl (by simp) Sub.nil)))
  · rfl
  ·
    intro j hinv
    have hr := take_range bs (a.toNat + (n - j)) j
    refine AW.seq ?_
    refine AW.rseq ?_
    refine AWL.y rfl rfl (B rfl) (Yv.move rfl (E rfl rfl)) ?_
    refine AWL.y rfl rfl (B rfl) (Yv.geq rfl (E rfl rfl) (E rfl rfl)) ?_
    refine AWL.nil ?_
    refine AW.cond rfl (fun h0t => ?_) (fun h0f => ?_)
    ·
      try replace h0t := of_decide_eq_true h0t
      have hp := pow_le j (by omega)
      have hbb := u8_toNat (bs.getD (a.toNat + (n - 1 - j)) 0)
      refine AW.skip ?_
      refine AW.seq ?_
      refine AW.block ?_
      refine AW.region ?_
      refine AWL.y rfl rfl (B rfl) (Yv.move rfl (E rfl rfl)) ?_
      refine AWL.y rfl rfl (B rfl) (Yv.mulN_u64 rfl (E rfl rfl) (E rfl rfl) (fun hg => by omega)) ?_
      refine AWL.y rfl rfl (B rfl) (Yv.move rfl (E rfl rfl)) ?_
      refine AWL.y rfl rfl (B rfl) (Yv.move rfl (E rfl rfl)) ?_
      refine AWL.y rfl rfl (B rfl) (Yv.move rfl (E rfl rfl)) ?_
      refine AWL.y rfl rfl (B rfl) (Yv.convN_u64 rfl Try.underlying3 kd_22 (E rfl rfl) (fun hg => by omega)) ?_
      refine AWL.y rfl rfl (B rfl) (Yv.addN_u64 rfl (E rfl rfl) (E rfl rfl) (fun hg => by omega)) ?_
      refine AWL.y rfl rfl (B rfl) (Yv.indexSl (j := a.toNat + (n - 1 - j)) rfl ss_27 (B rfl) (E rfl rfl) (E rfl rfl) (fun hg => ⟨by omega, by simp only [List.length_map, Nat.mul_one]; omega⟩)) ?_
      refine AWL.y rfl rfl (B rfl) (Yv.loadRp rfl ag_5 (E rfl rfl) (fun hg => u8_get (by omega))) ?_
      refine AWL.y rfl rfl (B rfl) (Yv.convU8 rfl Try.underlying5 kd_22 rfl (E rfl rfl)) ?_
      refine AWL.y rfl rfl (B rfl) (Yv.addN_u64 rfl (E rfl rfl) (E rfl rfl) (fun hg => by omega)) ?_
      refine AWL.y rfl rfl (B rfl) (Yv.assign rfl (E rfl rfl)) ?_
      refine AWL.nil ?_
      refine AW.region ?_
      refine AWL.y rfl rfl (B rfl) (Yv.move rfl (E rfl rfl)) ?_
      refine AWL.y rfl rfl (B rfl) (Yv.subN_i64 rfl (E rfl rfl) (E rfl rfl) (fun hg => by omega)) ?_
      refine AWL.y rfl rfl (B rfl) (Yv.assign rfl (E rfl rfl)) ?_
      refine AWL.nil ?_
      refine ⟨j + 1, by omega, by omega, Sub.cons rfl rfl (Sub.cons rfl rfl (Sub.cons rfl ?_ (Sub.cons rfl ?_ Sub.nil))), rfl⟩
      · rw [take_step bs a n j (by omega) (by omega)]; congr 2; omega
      · congr 2; omega
    ·
      try replace h0f := of_decide_eq_false h0f
      refine AW.exit ?_
      refine AW.rseq ?_
      refine AWL.y rfl rfl (B rfl) (Yv.move rfl (E rfl rfl)) ?_
      refine AWL.y rfl rfl (B rfl) (Yv.assign rfl (E rfl rfl)) ?_
      refine AWL.nil ?_
      refine AW.ret (retI (.tmp rfl .nil) ?_)
      have hj : j = n := by omega
      subst hj
      simp only [Nat.sub_self, Nat.add_zero]; rfl

end Go.Proofs.Ytckkcncgglfbbaa
