/-
  CONTRACTS of the world package: lines, reading a file; walked by program.
-/
import Derived.Test.YtmiggpnkicdijaaWk5
import Derived.Test.YtmiggpnkicdijaaRead
namespace Go.Proofs.Ytmiggpnkicdijaa
open Go Go.RowKit
set_option linter.unusedVariables false

set_option maxHeartbeats 400000 in
theorem Line16 (b m : Nat) (ws : WS) (n : Nat) (hw : WB n ws) (hn : n ≤ 1099511627776) :
    ACalls Try.prog 16 [wp b] (WSt b m ws) (fun t S => t = sv (ws.stdin.take (lineN ws.stdin)) ∧ S = WSt b m { ws with stdin := ws.stdin.drop (lineN ws.stdin) }) := by
  obtain ⟨ho, htr, htx, hfl, hpl, hsi⟩ := hw
  have hge := Lib.indexByte_ge ws.stdin 10
  have hlt := indexByte_lt ws.stdin 10
  refine ACalls.intro Try.func16 rfl Try.ntmps16 (Nat.le_of_ble_eq_true rfl) rfl fun X w0 => ?_
  refine AW.rseq ?_
  refine AWL.y rfl rfl (B rfl) (Yv.assign rfl (E rfl rfl)) ?_
  refine AWL.nil ?_
  refine AW.seq ?_
  refine AW.rseq ?_
  refine AWL.y rfl rfl (B rfl) (Yv.move rfl (E rfl rfl)) ?_
  refine AWL.y rfl rfl (B rfl) (Yv.eqlNilP rfl pn_24 (E rfl rfl)) ?_
  refine AWL.nil ?_
  refine AW.cond rfl (fun h0t => ?_) (fun h0f => ?_)
  ·
    try replace h0t := of_decide_eq_true h0t
    cases h0t
  ·
    try replace h0f := of_decide_eq_false h0f
    refine AW.skip ?_
    refine AW.rseq ?_
    refine AWL.y rfl rfl (B rfl) (Yv.move rfl (E rfl rfl)) ?_
    refine AWL.y rfl rfl (B rfl) (Yv.nilChk rfl (E rfl rfl)) ?_
    refine AWL.y rfl rfl (B rfl) (Yv.fieldBox rfl fo_70_1 (E rfl rfl)) ?_
    refine AWL.y rfl rfl (B rfl) (Yv.loadBox rfl ag_9 (i := 0) rfl (E rfl rfl) rfl) ?_
    refine AWL.callP rfl rfl (B rfl) rfl ce_32 (E rfl rfl) (evsC (E rfl rfl) (evsC (E rfl rfl) evs0)) (indexByte32 ws.stdin 10) (fun t S h => h) ?_
    refine AWL.y rfl rfl (B rfl) (Yv.addN_i64 rfl (E rfl rfl) (E rfl rfl) (fun hg => by omega)) ?_
    refine AWL.y rfl rfl (B rfl) (Yv.assign rfl (E rfl rfl)) ?_
    refine AWL.nil ?_
    refine AW.seq ?_
    refine AW.rseq ?_
    refine AWL.y rfl rfl (B rfl) (Yv.move rfl (E rfl rfl)) ?_
    refine AWL.y rfl rfl (B rfl) (Yv.eql rfl (E rfl rfl) (E rfl rfl)) ?_
    refine AWL.nil ?_
    refine AW.cond rfl (fun h1t => ?_) (fun h1f => ?_)
    ·
      try replace h1t := of_decide_eq_true h1t
      have hL : lineN ws.stdin = ws.stdin.length := by unfold lineN; rw [if_pos (by omega)]
      refine AW.region ?_
      refine AWL.y rfl rfl (B rfl) (Yv.move rfl (E rfl rfl)) ?_
      refine AWL.y rfl rfl (B rfl) (Yv.nilChk rfl (E rfl rfl)) ?_
      refine AWL.y rfl rfl (B rfl) (Yv.fieldBox rfl fo_70_1 (E rfl rfl)) ?_
      refine AWL.y rfl rfl (B rfl) (Yv.loadBox rfl ag_9 (i := 0) rfl (E rfl rfl) rfl) ?_
      refine AWL.y rfl rfl (B rfl) (Yv.lenL rfl st_9 (E rfl rfl)) ?_
      refine AWL.y rfl rfl (B rfl) (Yv.assign rfl (E rfl rfl)) ?_
      refine AWL.nil ?_
      refine AW.rseq ?_
      refine AWL.y rfl rfl (B rfl) (Yv.move rfl (E rfl rfl)) ?_
      refine AWL.y rfl rfl (B rfl) (Yv.nilChk rfl (E rfl rfl)) ?_
      refine AWL.y rfl rfl (B rfl) (Yv.fieldBox rfl fo_70_1 (E rfl rfl)) ?_
      refine AWL.y rfl rfl (B rfl) (Yv.loadBox rfl ag_9 (i := 0) rfl (E rfl rfl) rfl) ?_
      refine AWL.y rfl rfl (B rfl) (Yv.move rfl (E rfl rfl)) ?_
      refine AWL.y rfl rfl (B rfl) (Yv.sliceL rfl st_9 (E rfl rfl) Bound.none_ (Bound.some_ (E rfl rfl) (fun _ => rfl)) (fun hg => ⟨by omega, by omega⟩)) ?_
      refine AWL.y rfl rfl (B rfl) (Yv.assign rfl (E rfl rfl)) ?_
      refine AWL.nil ?_
      refine AW.rseq ?_
      refine AWL.y rfl rfl (B rfl) (Yv.move rfl (E rfl rfl)) ?_
      refine AWL.y rfl rfl (B rfl) (Yv.move rfl (E rfl rfl)) ?_
      refine AWL.y rfl rfl (B rfl) (Yv.nilChk rfl (E rfl rfl)) ?_
      refine AWL.y rfl rfl (B rfl) (Yv.fieldBox rfl fo_70_1 (E rfl rfl)) ?_
      refine AWL.y rfl rfl (B rfl) (Yv.loadBox rfl ag_9 (i := 0) rfl (E rfl rfl) rfl) ?_
      refine AWL.y rfl rfl (B rfl) (Yv.move rfl (E rfl rfl)) ?_
      refine AWL.y rfl rfl (B rfl) (Yv.sliceL rfl st_9 (E rfl rfl) (Bound.some_ (E rfl rfl) (fun _ => rfl)) Bound.none_ (fun hg => ⟨by omega, by omega⟩)) ?_
      refine AWL.y rfl rfl (B rfl) (Yv.nilChk rfl (E rfl rfl)) ?_
      refine AWL.y rfl rfl (B rfl) (Yv.fieldBox rfl fo_70_1 (E rfl rfl)) ?_
      refine AWL.storeBox (i := 0) rfl rfl rfl ag_9 rfl (E rfl rfl) (E rfl rfl) rfl rfl (Nat.le_of_ble_eq_true rfl) ?_
      refine AWL.nil ?_
      refine AW.rseq ?_
      refine AWL.y rfl rfl (B rfl) (Yv.move rfl (E rfl rfl)) ?_
      refine AWL.y rfl rfl (B rfl) (Yv.assign rfl (E rfl rfl)) ?_
      refine AWL.nil ?_
      refine AW.ret (retI (.tmp rfl .nil) ?_)
      have e : (ws.stdin.drop ws.stdin.length).take (ws.stdin.length - ws.stdin.length) = ws.stdin.drop ws.stdin.length := by simp
      rw [hL]
      exact ⟨rfl, congrArg (fun z => WSt b m { ws with stdin := z }) e⟩
    ·
      try replace h1f := of_decide_eq_false h1f
      have hL : lineN ws.stdin = (Lib.indexByte ws.stdin 10 + 1).toNat := by unfold lineN; rw [if_neg (by omega)]
      refine AW.skip ?_
      refine AW.rseq ?_
      refine AWL.y rfl rfl (B rfl) (Yv.move rfl (E rfl rfl)) ?_
      refine AWL.y rfl rfl (B rfl) (Yv.nilChk rfl (E rfl rfl)) ?_
      refine AWL.y rfl rfl (B rfl) (Yv.fieldBox rfl fo_70_1 (E rfl rfl)) ?_
      refine AWL.y rfl rfl (B rfl) (Yv.loadBox rfl ag_9 (i := 0) rfl (E rfl rfl) rfl) ?_
      refine AWL.y rfl rfl (B rfl) (Yv.move rfl (E rfl rfl)) ?_
      refine AWL.y rfl rfl (B rfl) (Yv.sliceL rfl st_9 (E rfl rfl) Bound.none_ (Bound.some_ (E rfl rfl) (fun _ => (Int.toNat_of_nonneg (by omega)).symm)) (fun hg => ⟨by omega, by omega⟩)) ?_
      refine AWL.y rfl rfl (B rfl) (Yv.assign rfl (E rfl rfl)) ?_
      refine AWL.nil ?_
      refine AW.rseq ?_
      refine AWL.y rfl rfl (B rfl) (Yv.move rfl (E rfl rfl)) ?_
      refine AWL.y rfl rfl (B rfl) (Yv.move rfl (E rfl rfl)) ?_
      refine AWL.y rfl rfl (B rfl) (Yv.nilChk rfl (E rfl rfl)) ?_
      refine AWL.y rfl rfl (B rfl) (Yv.fieldBox rfl fo_70_1 (E rfl rfl)) ?_
      refine AWL.y rfl rfl (B rfl) (Yv.loadBox rfl ag_9 (i := 0) rfl (E rfl rfl) rfl) ?_
      refine AWL.y rfl rfl (B rfl) (Yv.move rfl (E rfl rfl)) ?_
      refine AWL.y rfl rfl (B rfl) (Yv.sliceL rfl st_9 (E rfl rfl) (Bound.some_ (E rfl rfl) (fun _ => (Int.toNat_of_nonneg (by omega)).symm)) Bound.none_ (fun hg => ⟨by omega, by omega⟩)) ?_
      refine AWL.y rfl rfl (B rfl) (Yv.nilChk rfl (E rfl rfl)) ?_
      refine AWL.y rfl rfl (B rfl) (Yv.fieldBox rfl fo_70_1 (E rfl rfl)) ?_
      refine AWL.storeBox (i := 0) rfl rfl rfl ag_9 rfl (E rfl rfl) (E rfl rfl) rfl rfl (Nat.le_of_ble_eq_true rfl) ?_
      refine AWL.nil ?_
      refine AW.rseq ?_
      refine AWL.y rfl rfl (B rfl) (Yv.move rfl (E rfl rfl)) ?_
      refine AWL.y rfl rfl (B rfl) (Yv.assign rfl (E rfl rfl)) ?_
      refine AWL.nil ?_
      refine AW.ret (retI (.tmp rfl .nil) ?_)
      have e : (ws.stdin.drop (Lib.indexByte ws.stdin 10 + 1).toNat).take (ws.stdin.length - (Lib.indexByte ws.stdin 10 + 1).toNat) = ws.stdin.drop (Lib.indexByte ws.stdin 10 + 1).toNat := List.take_of_length_le (by rw [List.length_drop]; omega)
      rw [hL]
      exact ⟨rfl, congrArg (fun z => WSt b m { ws with stdin := z }) e⟩

set_option maxHeartbeats 400000 in
theorem SysClose18D (b m : Nat) (ws : WS) (j n : Nat) (hj : j < 19) (hw : WB n ws) :
    ACallsD Try.prog 18 [wp b, .v (.int .i64 (j : Int))] (WSt b m ws) (fun t S => t = .v (.int .i64 (if (ws.opn.getD j default).kind = 0 then -9 else 0)) ∧ S = WSt b m { ws with opn := closeF j ws.opn }) := by
  obtain ⟨ho, htr, htx, hfl, hpl, hsi⟩ := hw
  refine ACallsD.intro Try.func18 rfl Try.ntmps18 (Nat.le_of_ble_eq_true rfl) rfl fun X w0 => ?_
  refine AW.rseq ?_
  refine AWL.y rfl rfl (B rfl) (Yv.assign rfl (E rfl rfl)) ?_
  refine AWL.nil ?_
  refine AW.rseq ?_
  refine AWL.y rfl rfl (B rfl) (Yv.move rfl (E rfl rfl)) ?_
  refine AWL.y rfl rfl (B rfl) (Yv.move rfl (E rfl rfl)) ?_
  refine AWL.callP rfl rfl (B rfl) rfl ce_29 (E rfl rfl) (evsC (E rfl rfl) (evsC (E rfl rfl) evs0)) (at29 b j hj) (fun t S h => h) ?_
  refine AWL.y rfl rfl (B rfl) (Yv.assign rfl (E rfl rfl)) ?_
  refine AWL.nil ?_
  refine AW.seq ?_
  refine AW.rseq ?_
  refine AWL.y rfl rfl (B rfl) (Yv.move rfl (E rfl rfl)) ?_
  refine AWL.y rfl rfl (B rfl) (Yv.nilChk rfl (E rfl rfl)) ?_
  refine AWL.y rfl rfl (B rfl) (Yv.fieldBox rfl fo_67_0 (E rfl rfl)) ?_
  refine AWL.y rfl rfl (B rfl) (Yv.loadBox rfl ag_3 (i := 0) rfl (E rfl rfl) (kind_at (by omega))) ?_
  refine AWL.y rfl rfl (B rfl) (Yv.eql rfl (E rfl rfl) (E rfl rfl)) ?_
  refine AWL.nil ?_
  refine AW.cond rfl (fun h0t => ?_) (fun h0f => ?_)
  ·
    try replace h0t := of_decide_eq_true h0t
    refine AW.rseq ?_
    refine AWL.y rfl rfl (B rfl) (Yv.assign rfl (E rfl rfl)) ?_
    refine AWL.nil ?_
    refine AW.ret (retI (.tmp rfl .nil) ?_)
    unfold closeF
    rw [if_pos h0t, if_pos h0t]
    exact ⟨rfl, rfl⟩
  ·
    try replace h0f := of_decide_eq_false h0f
    refine AW.skip ?_
    refine AW.rseq ?_
    refine AWL.y rfl rfl (B rfl) (Yv.move rfl (E rfl rfl)) ?_
    refine AWL.y rfl rfl (B rfl) (Yv.buildS rfl sh_67 evp0 (fun _ => rfl)) ?_
    refine AWL.y rfl rfl (B rfl) (Yv.nilChk rfl (E rfl rfl)) ?_
    refine AWL.storeBox (i := 0) rfl rfl rfl ag_67 rfl (E rfl rfl) (E rfl rfl) rfl rfl (by first | (rw [wCells_len, ho]; omega) | (simp only [wCells_len, List.length_set, ho]; omega)) ?_
    refine AWL.nil ?_
    refine AW.rseq ?_
    refine AWL.y rfl rfl (B rfl) (Yv.assign rfl (E rfl rfl)) ?_
    refine AWL.nil ?_
    refine AW.ret (retI (.tmp rfl .nil) ?_)
    have e := set_desc (m := m) (s := ws.stdin) (A := ws.tA) (n := ws.trace.length) (c := ws.tc) (show j < ws.opn.length by omega) 0 3 (descCells ⟨0, [], 0⟩) ⟨0, [], 0⟩ (by decide) rfl
    unfold closeF
    rw [if_neg h0f, if_neg h0f]
    refine ⟨rfl, ?_⟩
    simp only [WSt]
    rw [← e]; rfl

set_option maxHeartbeats 400000 in
theorem ReadFile19 (b m : Nat) (ws : WS) (name : List UInt8) (n : Nat) (hw : WB n ws) (hn : n ≤ 549755813888) (hu : Uniq ws.files) :
    ACalls Try.prog 19 [wp b, sv name] (WSt b m ws) (fun t S => (openR name 0 ws < 0 ∧ t = .tup [sv [], .v (.bool false)] ∧ S = WSt b m ws) ∨ (¬ openR name 0 ws < 0 ∧ ∃ q, q < ws.files.length ∧ (ws.files.getD q default).name = name ∧ t = .tup [sv (ws.files.getD q default).bytes, .v (.bool true)] ∧ S = WSt b m { ws with opn := ws.opn.set (freeIx ws.opn) ⟨0, [], 0⟩ })) := by
  refine ACalls.introD Try.func19 rfl Try.ntmps19 (Nat.le_of_ble_eq_true rfl) rfl fun X w0 => ?_
  refine AWd.rseq ?_
  refine AWL.y rfl rfl (B rfl) (Yv.assign rfl (E rfl rfl)) ?_
  refine AWL.y rfl rfl (B rfl) (Yv.assign rfl (E rfl rfl)) ?_
  refine AWL.nil ?_
  refine AWd.rseq ?_
  refine AWL.y rfl rfl (B rfl) (Yv.move rfl (E rfl rfl)) ?_
  refine AWL.y rfl rfl (B rfl) (Yv.move rfl (E rfl rfl)) ?_
  refine AWL.callAll rfl rfl (B rfl) rfl ce_17 (E rfl rfl) (evsC (E rfl rfl) (evsC (E rfl rfl) (evsC (E rfl rfl) evs0))) (SysOpen17 b m ws name 0 n hw hn) ?_
  rintro t9 S9 ⟨rfl, A9, c9, tA9, tc9, rfl⟩
  refine AWL.y rfl rfl (B rfl) (Yv.assign rfl (E rfl rfl)) ?_
  refine AWL.nil ?_
  refine AWd.seq ?_
  refine AW.rseq ?_
  refine AWL.y rfl rfl (B rfl) (Yv.move rfl (E rfl rfl)) ?_
  refine AWL.y rfl rfl (B rfl) (Yv.lss rfl (E rfl rfl) (E rfl rfl)) ?_
  refine AWL.nil ?_
  refine AW.cond rfl (fun h0t => ?_) (fun h0f => ?_)
  ·
    try replace h0t := of_decide_eq_true h0t
    rw [openS_neg h0t]
    refine AW.rseq ?_
    refine AWL.y rfl rfl (B rfl) (Yv.assign rfl (E rfl rfl)) ?_
    refine AWL.y rfl rfl (B rfl) (Yv.assign rfl (E rfl rfl)) ?_
    refine AWL.nil ?_
    refine AW.ret ?_
    exact ⟨.inl rfl, .inl ⟨rfl, _, .tmp rfl (.tmp rfl .nil), .inl ⟨h0t, rfl, rfl⟩⟩⟩
  ·
    try replace h0f := of_decide_eq_false h0f
    have hok := open_ok h0f
    obtain ⟨q, hq, hnm⟩ := has_file (hok.has rfl)
    rw [openS_read h0f]
    have hw2 := wb_opn hw (freeIx ws.opn) ⟨4, name, 0⟩ (Nat.zero_le _)
    refine AW.skip ?_
    refine AWd.deferTwo rfl rfl rfl rfl rfl rfl (B rfl) (B rfl) rfl rfl rfl (E rfl rfl) (E rfl rfl) (E rfl rfl) (E rfl rfl) (E rfl rfl) ?_
    refine AWd.rseq ?_
    refine AWL.y rfl rfl (B rfl) (Yv.move rfl (E rfl rfl)) ?_
    refine AWL.y rfl rfl (B rfl) (Yv.nilChk rfl (E rfl rfl)) ?_
    refine AWL.y rfl rfl (B rfl) (Yv.fieldBox rfl fo_70_0 (E rfl rfl)) ?_
    refine AWL.y rfl rfl (B rfl) (Yv.loadBox rfl ag_64 (i := 0) rfl (E rfl rfl) rfl) ?_
    refine AWL.y rfl rfl (B rfl) (Yv.move rfl (E rfl rfl)) ?_
    refine AWL.y rfl rfl (B rfl) (Yv.eqT (t' := .v (.slice (ws.files.getD q default).A (ws.files.getD q default).bytes.length (ws.files.getD q default).c)) (Yv.lookup1 (k := .s _) (i := 1) rfl mp_64 rfl (E rfl rfl) (E rfl rfl) rfl (files_good _)) (by rw [← hnm, get_file hu hq]; rfl)) ?_
    refine AWL.y rfl rfl (B rfl) (Yv.bytesStrRow (i := q + 3) rfl by_71 st_9 (file_row hq) (E rfl rfl)) ?_
    refine AWL.y rfl rfl (B rfl) (Yv.assign rfl (E rfl rfl)) ?_
    refine AWL.y rfl rfl (B rfl) (Yv.assign rfl (E rfl rfl)) ?_
    refine AWL.nil ?_
    refine AWd.of (AW.ret ?_)
    have hD := SysClose18D b m { ws with opn := ws.opn.set (freeIx ws.opn) ⟨4, name, 0⟩ } (freeIx ws.opn) n hok.ix hw2
    rw [← hok.is] at hD
    refine ⟨.inl rfl, .inr ⟨18, _, _, [.string ⟨(ws.files.getD q default).bytes.toArray⟩, .bool true], _, _, rfl, by kernel_rfl, .tmp rfl (.tmp rfl .nil), ?_, rfl, hD, ?_⟩⟩
    · intro r hr
      have hr : r ∈ [ResultVar.tmp 4, ResultVar.tmp 5] := hr
      simp only [List.mem_cons, List.not_mem_nil, or_false] at hr
      rcases hr with rfl | rfl <;> exact ⟨_, rfl⟩
    · rintro t S' ⟨rfl, rfl⟩
      refine .inr ⟨h0f, q, hq, hnm, rfl, ?_⟩
      have ho := hw.opn
      have hx := hok.ix
      unfold closeF
      rw [getD_set (by omega), if_neg (show ¬ (4 : Int) = 0 by decide), List.set_set]

end Go.Proofs.Ytmiggpnkicdijaa
