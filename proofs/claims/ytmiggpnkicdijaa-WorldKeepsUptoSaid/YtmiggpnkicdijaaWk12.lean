/-
  CONTRACTS: reading by descriptors; the law Keeps; walked by program.
-/
import Derived.Test.YtmiggpnkicdijaaWk9
import Derived.Test.YtmiggpnkicdijaaKeeps
namespace Go.Proofs.Ytmiggpnkicdijaa
open Go Go.RowKit
set_option linter.unusedVariables false

set_option maxHeartbeats 1000000 in
theorem SysRead20 (b m : Nat) (ws : WS) (j q : Nat) (k : Int) (n : Nat) (hj : j < 19) (hk : (ws.opn.getD j default).kind = 4) (hq : q < ws.files.length) (hu : Uniq ws.files) (hnm : (ws.opn.getD j default).name = (ws.files.getD q default).name) (hp : (ws.opn.getD j default).place ≤ (ws.files.getD q default).bytes.length) (hw : WB n ws) (hn : n ≤ 549755813888) (h0 : 0 ≤ k) (h1 : k ≤ 18446744073709551615) :
    ACalls Try.prog 20 [wp b, .v (.int .i64 (j : Int)), .v (.int .u64 k)] (WSt b m ws) (fun t S => t = .tup [sv (rdF (ws.files.getD q default).bytes (ws.opn.getD j default).place k), .v (.int .i64 ((rdF (ws.files.getD q default).bytes (ws.opn.getD j default).place k).length : Int))] ∧ S = WSt b m { ws with opn := ws.opn.set j { (ws.opn.getD j default) with place := (ws.opn.getD j default).place + (rdF (ws.files.getD q default).bytes (ws.opn.getD j default).place k).length } }) := by
  obtain ⟨ho, htr, htx, hfl, hpl, hsi⟩ := hw
  have hfq : (ws.files.getD q default).bytes.length ≤ n := hfl _ (getD_mem' hq)
  have hrl := rdF_len (ws.files.getD q default).bytes (ws.opn.getD j default).place k
  refine ACalls.intro Try.func20 rfl Try.ntmps20 (Nat.le_of_ble_eq_true rfl) rfl fun X w0 => ?_
  refine AW.rseq ?_
  refine AWL.y rfl rfl (B rfl) (Yv.assign rfl (E rfl rfl)) ?_
  refine AWL.y rfl rfl (B rfl) (Yv.assign rfl (E rfl rfl)) ?_
  refine AWL.nil ?_
  refine AW.rseq ?_
  refine AWL.y rfl rfl (B rfl) (Yv.move rfl (E rfl rfl)) ?_
  refine AWL.y rfl rfl (B rfl) (Yv.move rfl (E rfl rfl)) ?_
  refine AWL.callP rfl rfl (B rfl) rfl ce_29 (E rfl rfl) (evsC (E rfl rfl) (evsC (E rfl rfl) evs0)) (at29 b j hj) (fun t S h => h) ?_
  refine AWL.y rfl rfl (B rfl) (Yv.assign rfl (E rfl rfl)) ?_
  refine AWL.nil ?_
  refine AW.seq ?_
  refine AW.rseq ?_
  refine AWL.y rfl rfl (B rfl) (Yv.move rfl (E rfl rfl)) ?_
  refine AWL.y rfl rfl (B rfl) (Yv.nilChk rfl (E rfl rfl)) ?_
  refine AWL.y rfl rfl (B rfl) (Yv.fieldBox rfl fo_67_0 (E rfl rfl)) ?_
  refine AWL.y rfl rfl (B rfl) (Yv.loadBox rfl ag_3 (i := 0) rfl (E rfl rfl) (kind_at (by omega))) ?_
  refine AWL.nil ?_
  refine AW.block ?_
  refine AW.rseq ?_
  refine AWL.y rfl rfl (B rfl) (Yv.eql rfl (E rfl rfl) (E rfl rfl)) ?_
  refine AWL.y rfl rfl (B rfl) (Yv.assign rfl (E rfl rfl)) ?_
  refine AWL.nil ?_
  refine AW.cond rfl (fun h0t => ?_) (fun h0f => ?_)
  ·
    try replace h0t := of_decide_eq_true h0t
    omega
  ·
    try replace h0f := of_decide_eq_false h0f
    refine AW.rseq ?_
    refine AWL.y rfl rfl (B rfl) (Yv.eql rfl (E rfl rfl) (E rfl rfl)) ?_
    refine AWL.y rfl rfl (B rfl) (Yv.assign rfl (E rfl rfl)) ?_
    refine AWL.nil ?_
    refine AW.cond rfl (fun h1t => ?_) (fun h1f => ?_)
    ·
      try replace h1t := of_decide_eq_true h1t
      refine AW.rseqQ rfl (by kernel_rfl) ?_
      refine AWQ.y rfl rfl (B rfl) (Yv.move rfl (E rfl rfl)) ?_
      refine AWQ.y rfl rfl (B rfl) (Yv.nilChk rfl (E rfl rfl)) ?_
      refine AWQ.y rfl rfl (B rfl) (Yv.fieldBox rfl fo_70_0 (E rfl rfl)) ?_
      refine AWQ.y rfl rfl (B rfl) (Yv.loadBox rfl ag_64 (i := 0) rfl (E rfl rfl) rfl) ?_
      refine AWQ.y rfl rfl (B rfl) (Yv.move rfl (E rfl rfl)) ?_
      refine AWQ.y rfl rfl (B rfl) (Yv.nilChk rfl (E rfl rfl)) ?_
      refine AWQ.y rfl rfl (B rfl) (Yv.fieldBox rfl fo_67_1 (E rfl rfl)) ?_
      refine AWQ.y rfl rfl (B rfl) (Yv.loadBox rfl ag_9 (i := 0) rfl (E rfl rfl) (name_at (by omega))) ?_
      refine AWQ.y rfl rfl (B rfl) (Yv.eqT (t' := .v (.slice (ws.files.getD q default).A (ws.files.getD q default).bytes.length (ws.files.getD q default).c)) (Yv.lookup1 (k := .s _) (i := 1) rfl mp_64 rfl (E rfl rfl) (E rfl rfl) rfl (files_good _)) (by rw [hnm, get_file hu hq]; rfl)) ?_
      refine AWQ.y rfl rfl (B rfl) (Yv.assign rfl (E rfl rfl)) ?_
      refine AWQ.nil ?_
      refine AW.rseq ?_
      refine AWL.y rfl rfl (B rfl) (Yv.move rfl (E rfl rfl)) ?_
      refine AWL.y rfl rfl (B rfl) (Yv.move rfl (E rfl rfl)) ?_
      refine AWL.y rfl rfl (B rfl) (Yv.nilChk rfl (E rfl rfl)) ?_
      refine AWL.y rfl rfl (B rfl) (Yv.fieldBox rfl fo_67_2 (E rfl rfl)) ?_
      refine AWL.y rfl rfl (B rfl) (Yv.loadBox rfl ag_3 (i := 0) rfl (E rfl rfl) (place_at (by omega))) ?_
      refine AWL.y rfl rfl (B rfl) (Yv.move rfl (E rfl rfl)) ?_
      refine AWL.y rfl rfl (B rfl) (Yv.lenV rfl so_71 (E rfl rfl)) ?_
      refine AWL.y rfl rfl (B rfl) (Yv.min2 rfl (E rfl rfl) (E rfl rfl)) ?_
      have e9 : (if ((ws.files.getD q default).bytes.length : Int) < ((ws.opn.getD j default).place : Int) then ((ws.files.getD q default).bytes.length : Int) else ((ws.opn.getD j default).place : Int)) = ((ws.opn.getD j default).place : Int) := if_neg (by omega)
      rw [e9]
      refine AWL.y rfl rfl (B rfl) (Yv.sliceRowFrom (i := q + 3) (lo := (ws.opn.getD j default).place) rfl ss_71 (file_row hq) (E rfl rfl) (Bound.some_ (E rfl rfl) (fun _ => rfl)) (fun hg => hp)) ?_
      refine AWL.y rfl rfl (B rfl) (Yv.assign rfl (E rfl rfl)) ?_
      refine AWL.nil ?_
      refine AW.rowLe (q + 3) (file_row hq) (fun hcap => ?_)
      refine AW.rseq ?_
      refine AWL.y rfl rfl (B rfl) (Yv.move rfl (E rfl rfl)) ?_
      refine AWL.y rfl rfl (B rfl) (Yv.move rfl (E rfl rfl)) ?_
      refine AWL.y rfl rfl (B rfl) (Yv.move rfl (E rfl rfl)) ?_
      refine AWL.y rfl rfl (B rfl) (Yv.lenV rfl so_71 (E rfl rfl)) ?_
      refine AWL.y rfl rfl (B rfl) (Yv.convN_u64 rfl Try.underlying3 kd_51 (E rfl rfl) (fun hg => by omega)) ?_
      refine AWL.y rfl rfl (B rfl) (Yv.min2 rfl (E rfl rfl) (E rfl rfl)) ?_
      have e10 : (if (((ws.files.getD q default).bytes.length - (ws.opn.getD j default).place : Nat) : Int) < k then (((ws.files.getD q default).bytes.length - (ws.opn.getD j default).place : Nat) : Int) else k) = (((rdF (ws.files.getD q default).bytes (ws.opn.getD j default).place k).length : Nat) : Int) := by rw [hrl]; split <;> omega
      rw [e10]
      refine AWL.y rfl rfl (B rfl) (Yv.sliceV0 (m := (rdF (ws.files.getD q default).bytes (ws.opn.getD j default).place k).length) rfl ss_71 (E rfl rfl) (Bound.some_ (E rfl rfl) (fun _ => rfl)) (fun hg => by omega)) ?_
      refine AWL.y rfl rfl (B rfl) (Yv.assign rfl (E rfl rfl)) ?_
      refine AWL.nil ?_
      refine AW.rseq ?_
      refine AWL.y rfl rfl (B rfl) (Yv.move rfl (E rfl rfl)) ?_
      refine AWL.y rfl rfl (B rfl) (Yv.nilChk rfl (E rfl rfl)) ?_
      refine AWL.y rfl rfl (B rfl) (Yv.fieldBox rfl fo_67_2 (E rfl rfl)) ?_
      refine AWL.y rfl rfl (B rfl) (Yv.loadBox rfl ag_3 (i := 0) rfl (E rfl rfl) (place_at (by omega))) ?_
      refine AWL.y rfl rfl (B rfl) (Yv.move rfl (E rfl rfl)) ?_
      refine AWL.y rfl rfl (B rfl) (Yv.lenV rfl so_71 (E rfl rfl)) ?_
      refine AWL.y rfl rfl (B rfl) (Yv.addN_i64 rfl (E rfl rfl) (E rfl rfl) (fun hg => by omega)) ?_
      refine AWL.y rfl rfl (B rfl) (Yv.nilChk rfl (E rfl rfl)) ?_
      refine AWL.y rfl rfl (B rfl) (Yv.fieldBox rfl fo_67_2 (E rfl rfl)) ?_
      refine AWL.storeBox (i := 0) rfl rfl rfl ag_3 rfl (E rfl rfl) (E rfl rfl) rfl rfl (by first | (rw [wCells_len, ho]; omega) | (simp only [wCells_len, List.length_set, ho]; omega)) ?_
      refine AWL.nil ?_
      refine AW.eqS (wst_desc (b := b) (m := m) (ws := ws) (j := j) (by omega) 2 1 [.v (.int .i64 (((ws.opn.getD j default).place + (rdF (ws.files.getD q default).bytes (ws.opn.getD j default).place k).length : Nat) : Int))] { (ws.opn.getD j default) with place := (ws.opn.getD j default).place + (rdF (ws.files.getD q default).bytes (ws.opn.getD j default).place k).length } (by decide) rfl) ?_
      refine AW.rseq ?_
      refine AWL.y rfl rfl (B rfl) (Yv.move rfl (E rfl rfl)) ?_
      refine AWL.y rfl rfl (B rfl) (Yv.bytesStrPart (i := q + 3) (lo := (ws.opn.getD j default).place) (m := (rdF (ws.files.getD q default).bytes (ws.opn.getD j default).place k).length) (n := (ws.files.getD q default).bytes.length) (s := (ws.files.getD q default).bytes) rfl by_71 st_9 (file_row hq) (E rfl rfl) (fun hg => by omega)) ?_
      refine AWL.y rfl rfl (B rfl) (Yv.move rfl (E rfl rfl)) ?_
      refine AWL.y rfl rfl (B rfl) (Yv.lenV rfl so_71 (E rfl rfl)) ?_
      refine AWL.y rfl rfl (B rfl) (Yv.assign rfl (E rfl rfl)) ?_
      refine AWL.y rfl rfl (B rfl) (Yv.assign rfl (E rfl rfl)) ?_
      refine AWL.nil ?_
      refine AW.ret (retI (.tmp rfl (.tmp rfl .nil)) ?_)
      have er : ((ws.files.getD q default).bytes.drop (ws.opn.getD j default).place).take (rdF (ws.files.getD q default).bytes (ws.opn.getD j default).place k).length = (rdF (ws.files.getD q default).bytes (ws.opn.getD j default).place k) := by
        rw [hrl]
        unfold rdF
        rcases Nat.le_total k.toNat ((ws.files.getD q default).bytes.length - (ws.opn.getD j default).place) with h | h
        · rw [Nat.min_eq_left h]
        · rw [Nat.min_eq_right h, List.take_of_length_le (by rw [List.length_drop]; exact Nat.le_refl _), List.take_of_length_le (by rw [List.length_drop]; exact h)]
      rw [er]
      exact ⟨rfl, rfl⟩
    ·
      try replace h1f := of_decide_eq_false h1f
      omega

set_option maxHeartbeats 4000000 in
theorem WorldKeeps6 (name other : List UInt8) (parts : List (List UInt8)) (sizes : List Int) (hpt : sizeB parts ≤ 1099511627) (hsl : sizes.length ≤ 1099511627) (hsz : ∀ z ∈ sizes, 0 ≤ z ∧ z ≤ 18446744073709551615) :
    ACalls Try.prog 6 [sv name, sv other, .sl 1 (parts.map sv), .sl 1 (sizes.map fun z => T.v (.int .u64 z))] [] (fun t S => t = .v (.bool true)) := by
  have hpl2 := sizeB_len parts
  have hjl := joinF_len parts
  refine ACalls.intro Try.func6 rfl Try.ntmps6 (Nat.le_of_ble_eq_true rfl) rfl fun X w0 => ?_
  refine AW.rseq ?_
  refine AWL.y rfl rfl (B rfl) (Yv.assign rfl (E rfl rfl)) ?_
  refine AWL.nil ?_
  refine AW.rseq ?_
  refine AWL.y rfl rfl (B rfl) (Yv.move rfl (E rfl rfl)) ?_
  refine AWL.y rfl rfl (B rfl) (Yv.buildS rfl sh_46 (evpC (E rfl rfl) (evpC (E rfl rfl) evp0)) (fun _ => rfl)) ?_
  refine AWL.buildSliceE rfl rfl (B rfl) rfl el_26 (B rfl) rfl (evsC (E rfl rfl) evs0) (Nat.le_of_ble_eq_true rfl) rfl rfl ?_
  refine AWL.y rfl rfl (B rfl) (Yv.buildS rfl sh_28 (evpC (E rfl rfl) evp0) (fun _ => rfl)) ?_
  refine AWL.retype (k := 31) (t' := worldT [] [(other, [101, 108, 115, 101])]) rfl (fun w L u h => h) ?_
  refine AWL.call rfl rfl (B rfl) rfl ce_9 (E rfl rfl) (evsC (E rfl rfl) evs0) (S1 := []) (S2 := _) rfl (New9 [] [(other, [101, 108, 115, 101])] (by decide) (show (1 : Nat) ≤ 1099511627776 by decide) (fun x hx => by rw [List.mem_singleton] at hx; subst hx; show (4 : Nat) ≤ _; decide)) ?_
  rintro t32 S32 ⟨b, m, fl, rfl, rfl, hfl⟩
  have hw0 : WB 4 ⟨fl, [], opn0, [], none, 0⟩ := new_wb (l := [(other, [101, 108, 115, 101])]) hfl (Nat.zero_le _) (fun x hx => by rw [List.mem_singleton] at hx; subst hx; show (4 : Nat) ≤ 4; decide)
  have hu0 := new_uniq hfl
  refine AWL.eqS (List.append_nil _) ?_
  refine AWL.y rfl rfl (B rfl) (Yv.assign rfl (E rfl rfl)) ?_
  refine AWL.nil ?_
  refine AW.seq ?_
  refine AW.rseq ?_
  refine AWL.y rfl rfl (B rfl) (Yv.move rfl (E rfl rfl)) ?_
  refine AWL.y rfl rfl (B rfl) (Yv.eqlNilP rfl pn_24 (E rfl rfl)) ?_
  refine AWL.y rfl rfl (B rfl) (Yv.move rfl (E rfl rfl)) ?_
  refine AWL.callPgF rfl rfl rfl rfl (B rfl) rfl ce_10 (E rfl rfl) evs0 (fun hg => known10) (fun t S h => h) ?_
  refine AWL.ygF rfl rfl rfl rfl (B rfl) (Yv.not rfl (Eg rfl rfl id)) ?_
  refine AWL.y rfl rfl (B rfl) (Yv.pickOr (t := .const (.bool true)) rfl (E rfl rfl) (Eg rfl rfl id)) ?_
  refine AWL.nil ?_
  refine AW.cond rfl (fun h0t => ?_) (fun h0f => ?_)
  ·
    try replace h0t := of_decide_eq_true h0t
    cases h0t
  ·
    try replace h0f := of_decide_eq_false h0f
    refine AW.skip ?_
    refine AW.rseq ?_
    refine AWL.y rfl rfl (B rfl) (Yv.move rfl (E rfl rfl)) ?_
    refine AWL.y rfl rfl (B rfl) (Yv.move rfl (E rfl rfl)) ?_
    refine AWL.callAll rfl rfl (B rfl) rfl ce_17 (E rfl rfl) (evsC (E rfl rfl) (evsC (E rfl rfl) (evsC (E rfl rfl) evs0))) (SysOpen17 b m ⟨fl, [], opn0, [], none, 0⟩ name 577 4 hw0 (by decide)) ?_
    rintro t41 S41 ⟨rfl, A41, c41, tA41, tc41, rfl⟩
    refine AWL.y rfl rfl (B rfl) (Yv.assign rfl (E rfl rfl)) ?_
    refine AWL.nil ?_
    refine AW.seq ?_
    refine AW.rseq ?_
    refine AWL.y rfl rfl (B rfl) (Yv.move rfl (E rfl rfl)) ?_
    refine AWL.y rfl rfl (B rfl) (Yv.lss rfl (E rfl rfl) (E rfl rfl)) ?_
    refine AWL.nil ?_
    refine AW.cond rfl (fun h1t => ?_) (fun h1f => ?_)
    ·
      try replace h1t := of_decide_eq_true h1t
      rw [openS_neg h1t]
      refine AW.rseq ?_
      refine AWL.y rfl rfl (B rfl) (Yv.move rfl (E rfl rfl)) ?_
      refine AWL.y rfl rfl (B rfl) (Yv.move rfl (E rfl rfl)) ?_
      refine AWL.callAll rfl rfl (B rfl) rfl ce_19 (E rfl rfl) (evsC (E rfl rfl) (evsC (E rfl rfl) evs0)) (ReadFile19 b m ⟨fl, [], opn0, [], none, 0⟩ name 4 hw0 (by decide) hu0) ?_
      rintro t47 S47 hR47
      obtain ⟨s, is, ws9, rfl, rfl, his⟩ : ∃ s is ws9, t47 = .tup [sv s, .v (.bool is)] ∧ S47 = WSt b m ws9 ∧ (is = true → name = other) := by
        rcases hR47 with ⟨h, h2, h3⟩ | ⟨h, q, hq, hn, h2, h3⟩
        · exact ⟨_, _, _, h2, h3, fun h => by cases h⟩
        · exact ⟨_, _, _, h2, h3, fun _ => only_name hfl hq hn⟩
      refine AWL.y rfl rfl (B rfl) (Yv.move rfl (E rfl rfl)) ?_
      refine AWL.y rfl rfl (B rfl) (Yv.extract rfl (E rfl rfl) rfl) ?_
      refine AWL.y rfl rfl (B rfl) (Yv.extract rfl (E rfl rfl) rfl) ?_
      refine AWL.y rfl rfl (B rfl) (Yv.assign rfl (E rfl rfl)) ?_
      refine AWL.y rfl rfl (B rfl) (Yv.assign rfl (E rfl rfl)) ?_
      refine AWL.nil ?_
      refine AW.rseq ?_
      refine AWL.y rfl rfl (B rfl) (Yv.move rfl (E rfl rfl)) ?_
      refine AWL.y rfl rfl (B rfl) (Yv.not rfl (E rfl rfl)) ?_
      refine AWL.y rfl rfl (B rfl) (Yv.move rfl (E rfl rfl)) ?_
      refine AWL.ygF rfl rfl rfl rfl (B rfl) (Yv.move rfl (E rfl rfl)) ?_
      refine AWL.ygF rfl rfl rfl rfl (B rfl) (Yv.move rfl (E rfl rfl)) ?_
      refine AWL.ygF rfl rfl rfl rfl (B rfl) (Yv.eqlL rfl (Eg rfl rfl id) (Eg rfl rfl id)) ?_
      refine AWL.y rfl rfl (B rfl) (Yv.pickOr (t := .const (.bool true)) rfl (E rfl rfl) (Eg rfl rfl id)) ?_
      refine AWL.y rfl rfl (B rfl) (Yv.assign rfl (E rfl rfl)) ?_
      refine AWL.nil ?_
      refine AW.ret (retI (.tmp rfl .nil) ?_)
      cases is with
      | false => rfl
      | true => rw [decide_eq_true (his rfl)]; rfl
    ·
      try replace h1f := of_decide_eq_false h1f
      have hok := open_ok h1f
      have h3 : openR name 577 ⟨fl, [], opn0, [], none, 0⟩ = 3 := hok.is.trans (by show ((freeIx opn0 : Nat) : Int) = 3; decide)
      rw [openS_write h1f, h3]
      obtain ⟨q, hq, hqf⟩ := put_q ⟨name, [], A41, c41⟩ fl
      have hK0 : KW q name [] (8 + sizeB []) { (⟨fl, [], opn0, [], none, 0⟩ : WS) with opn := opn0.set (freeIx opn0) ⟨5, name, 0⟩, files := putF ⟨name, [], A41, c41⟩ fl, trace := [] ++ [⟨3, name, []⟩], tA := tA41, tc := tc41 } := by
        have hw1 := wb_open hw0 (freeIx opn0) name A41 tA41 c41 tc41
        exact ⟨⟨hw1.opn, by have := hw1.tr; simp only at this ⊢; omega, fun e he => by have := hw1.txt e he; omega, fun f hf => by have := hw1.fl f hf; omega, fun d hd => by have := hw1.pl d hd; omega, by have := hw1.sin; simp only at this ⊢; omega⟩, uniq_putF hu0, hq, by show ((putF _ _).getD q default).name = name; rw [hqf], by show ((putF _ _).getD q default).bytes = []; rw [hqf], rfl, rfl⟩
      refine AW.skip ?_
      refine AW.rseq ?_
      refine AWL.y rfl rfl (B rfl) (Yv.assign rfl (E rfl rfl)) ?_
      refine AWL.nil ?_
      refine AW.seq ?_
      refine AW.rseq ?_
      refine AWL.y rfl rfl (B rfl) (Yv.assign rfl (E rfl rfl)) ?_
      refine AWL.nil ?_
      refine AW.block ?_
      refine AW.loop2 (fun (i : Nat) (ws : WS) => [(0, true, sv name), (2, true, .sl 1 (parts.map sv)), (3, true, .sl 1 (sizes.map fun z => T.v (.int .u64 z))), (9, true, wp b), (10, true, .v (.int .i64 3)), (13, true, sv (joinF (parts.take i))), (14, true, .v (.int .i64 (i : Int)))]) (fun (i : Nat) (ws : WS) => (WSt b m ws)) (fun (i : Nat) (ws : WS) => i ≤ parts.length ∧ KW q name (joinF (parts.take i)) (8 + sizeB (parts.take i)) ws) (fun (i : Nat) (ws : WS) => parts.length - i) 0 ({ (⟨fl, [], opn0, [], none, 0⟩ : WS) with opn := opn0.set (freeIx opn0) ⟨5, name, 0⟩, files := putF ⟨name, [], A41, c41⟩ fl, trace := [] ++ [⟨3, name, []⟩], tA := tA41, tc := tc41 }) ?_ ?_ ?_ ?_
      · exact ⟨Nat.zero_le _, hK0⟩
      · exact (Sub.cons rfl rfl (Sub.cons rfl rfl (Sub.cons rfl rfl (Sub.cons rfl rfl (Sub.cons rfl rfl (Sub.cons rfl rfl (Sub.cons rfl rfl Sub.nil)))))))
      · rfl
      ·
        intro i ws hinv
        obtain ⟨hi, hK⟩ := hinv
        have hst0 := sizeB_take parts i
        refine AW.seq ?_
        refine AW.rseq ?_
        refine AWL.y rfl rfl (B rfl) (Yv.move rfl (E rfl rfl)) ?_
        refine AWL.y rfl rfl (B rfl) (Yv.move rfl (E rfl rfl)) ?_
        refine AWL.y rfl rfl (B rfl) (Yv.lenSl rfl so_22 (B rfl) (E rfl rfl) len_svs) ?_
        refine AWL.y rfl rfl (B rfl) (Yv.lss rfl (E rfl rfl) (E rfl rfl)) ?_
        refine AWL.nil ?_
        refine AW.cond rfl (fun h2t => ?_) (fun h2f => ?_)
        ·
          try replace h2t := of_decide_eq_true h2t
          have hsu := sizeB_succ (l := parts) (i := i) (by omega)
          have hst := sizeB_take parts (i + 1)
          have hju := joinF_succ (l := parts) (i := i) (by omega)
          have hjn := joinF_len (parts.take i)
          refine AW.skip ?_
          refine AW.seq ?_
          refine AW.block ?_
          refine AW.rseq ?_
          refine AWL.y rfl rfl (B rfl) (Yv.move rfl (E rfl rfl)) ?_
          refine AWL.y rfl rfl (B rfl) (Yv.move rfl (E rfl rfl)) ?_
          refine AWL.y rfl rfl (B rfl) (Yv.move rfl (E rfl rfl)) ?_
          refine AWL.y rfl rfl (B rfl) (Yv.move rfl (E rfl rfl)) ?_
          refine AWL.y rfl rfl (B rfl) (Yv.indexSl rfl ss_22 (B rfl) (E rfl rfl) (E rfl rfl) (fun hg => ⟨rfl, (by first | omega | (simp only [len_svs, len_u64s, len_ev]; omega))⟩)) ?_
          refine AWL.y rfl rfl (B rfl) (Yv.loadRp rfl ag_9 (E rfl rfl) (fun hg => sv_get (by omega))) ?_
          refine AWL.callAll rfl rfl (B rfl) rfl ce_13 (E rfl rfl) (evsC (E rfl rfl) (evsC (E rfl rfl) (evsC (E rfl rfl) evs0))) (SysWrite13_5 b m ws 3 q (parts.getD i []) (8 + sizeB (parts.take i)) (by decide) (by rw [hK.desc]) hK.hq hK.uq (by rw [hK.desc, hK.nm]) hK.wb (by omega) (by omega)) ?_
          rintro t69 S69 ⟨rfl, A69, c69, tA69, tc69, rfl⟩
          refine AWL.y rfl rfl (B rfl) (Yv.assign rfl (E rfl rfl)) ?_
          refine AWL.nil ?_
          refine AW.seq ?_
          refine AW.rseq ?_
          refine AWL.y rfl rfl (B rfl) (Yv.move rfl (E rfl rfl)) ?_
          refine AWL.y rfl rfl (B rfl) (Yv.move rfl (E rfl rfl)) ?_
          refine AWL.y rfl rfl (B rfl) (Yv.move rfl (E rfl rfl)) ?_
          refine AWL.y rfl rfl (B rfl) (Yv.indexSl rfl ss_22 (B rfl) (E rfl rfl) (E rfl rfl) (fun hg => ⟨rfl, (by first | omega | (simp only [len_svs, len_u64s, len_ev]; omega))⟩)) ?_
          refine AWL.y rfl rfl (B rfl) (Yv.loadRp rfl ag_9 (E rfl rfl) (fun hg => sv_get (by omega))) ?_
          refine AWL.y rfl rfl (B rfl) (Yv.lenL rfl st_9 (E rfl rfl)) ?_
          refine AWL.y rfl rfl (B rfl) (Yv.neq rfl (E rfl rfl) (E rfl rfl)) ?_
          refine AWL.nil ?_
          refine AW.cond rfl (fun h3t => ?_) (fun h3f => ?_)
          ·
            try replace h3t := of_decide_eq_true h3t
            simp at h3t
          ·
            try replace h3f := of_decide_eq_false h3f
            refine AW.skip ?_
            refine AW.region ?_
            refine AWL.y rfl rfl (B rfl) (Yv.move rfl (E rfl rfl)) ?_
            refine AWL.y rfl rfl (B rfl) (Yv.move rfl (E rfl rfl)) ?_
            refine AWL.y rfl rfl (B rfl) (Yv.move rfl (E rfl rfl)) ?_
            refine AWL.y rfl rfl (B rfl) (Yv.indexSl rfl ss_22 (B rfl) (E rfl rfl) (E rfl rfl) (fun hg => ⟨rfl, (by first | omega | (simp only [len_svs, len_u64s, len_ev]; omega))⟩)) ?_
            refine AWL.y rfl rfl (B rfl) (Yv.loadRp rfl ag_9 (E rfl rfl) (fun hg => sv_get (by omega))) ?_
            refine AWL.y rfl rfl (B rfl) (Yv.addL rfl (E rfl rfl) (E rfl rfl) (fun hg => by omega)) ?_
            refine AWL.y rfl rfl (B rfl) (Yv.assign rfl (E rfl rfl)) ?_
            refine AWL.nil ?_
            refine AW.region ?_
            refine AWL.y rfl rfl (B rfl) (Yv.move rfl (E rfl rfl)) ?_
            refine AWL.y rfl rfl (B rfl) (Yv.addN_i64 rfl (E rfl rfl) (E rfl rfl) (fun hg => by omega)) ?_
            refine AWL.y rfl rfl (B rfl) (Yv.assign rfl (E rfl rfl)) ?_
            refine AWL.nil ?_
            have hnx := hK.write (parts.getD i []) A69 tA69 c69 tc69
            refine ⟨i + 1, wrF 3 q (parts.getD i []) A69 c69 tA69 tc69 ws, ⟨by omega, ?_⟩, by omega, ?_, rfl⟩
            · rw [hju, hsu, show 8 + (sizeB (parts.take i) + (parts.getD i []).length + 1) = 8 + sizeB (parts.take i) + (parts.getD i []).length + 1 by omega]; exact hnx
            · exact (Sub.cons rfl rfl (Sub.cons rfl rfl (Sub.cons rfl rfl (Sub.cons rfl rfl (Sub.cons rfl rfl (Sub.cons rfl (by rw [hju]) (Sub.cons rfl (by simp) Sub.nil)))))))
        ·
          try replace h2f := of_decide_eq_false h2f
          have hi2 : parts.take i = parts := List.take_of_length_le (by omega)
          refine AW.exit ?_
          refine AW.rseq ?_
          refine AWL.y rfl rfl (B rfl) (Yv.move rfl (E rfl rfl)) ?_
          refine AWL.y rfl rfl (B rfl) (Yv.move rfl (E rfl rfl)) ?_
          refine AWL.callAll rfl rfl (B rfl) rfl ce_18 (E rfl rfl) (evsC (E rfl rfl) (evsC (E rfl rfl) evs0)) (SysClose18 b m ws 3 (8 + sizeB (parts.take i)) (by decide) hK.wb) ?_
          rintro t85 S85 ⟨rfl, rfl⟩
          rw [if_neg (show ¬ (ws.opn.getD 3 default).kind = 0 by rw [hK.desc]; show ¬ (5 : Int) = 0; decide)]
          refine AWL.eqS (S' := WSt b m { ws with opn := opn0 }) (by
            show WSt b m { ws with opn := closeF 3 ws.opn } = _
            unfold closeF
            rw [if_neg (show ¬ (ws.opn.getD 3 default).kind = 0 by rw [hK.desc]; show ¬ (5 : Int) = 0; decide), hK.opn, List.set_set]; rfl) ?_
          have hwc : WB (8 + sizeB (parts.take i)) { ws with opn := opn0 } := ⟨rfl, hK.wb.tr, hK.wb.txt, hK.wb.fl, fun d hd => by rw [(show ∀ d ∈ opn0, d.place = 0 by decide) d hd]; exact Nat.zero_le _, hK.wb.sin⟩
          have hhas := has_of hK.hq hK.nm
          have hor : openR name 0 { ws with opn := opn0 } = 3 := (openR_read (ws := { ws with opn := opn0 }) hok.len hok.idx hok.ne hhas (by show freeIx opn0 < 19; decide)).trans (by show ((freeIx opn0 : Nat) : Int) = 3; decide)
          refine AWL.y rfl rfl (B rfl) (Yv.assign rfl (E rfl rfl)) ?_
          refine AWL.nil ?_
          refine AW.rseq ?_
          refine AWL.y rfl rfl (B rfl) (Yv.move rfl (E rfl rfl)) ?_
          refine AWL.y rfl rfl (B rfl) (Yv.move rfl (E rfl rfl)) ?_
          refine AWL.callAll rfl rfl (B rfl) rfl ce_19 (E rfl rfl) (evsC (E rfl rfl) (evsC (E rfl rfl) evs0)) (ReadFile19 b m { ws with opn := opn0 } name (8 + sizeB (parts.take i)) hwc (by omega) hK.uq) ?_
          rintro t89 S89 hR89
          obtain ⟨_, q2, hq2, hqn2, rfl, rfl⟩ := hR89.resolve_left (fun q => by rw [hor] at q; exact absurd q.1 (by decide))
          obtain rfl := uniq_ix hK.uq hK.hq hq2 (hK.nm.trans hqn2.symm)
          rw [show (({ ws with opn := opn0 } : WS).files.getD q default).bytes = (joinF parts) from hK.bytes.trans (by rw [hi2])]
          refine AWL.eqS (S' := WSt b m { ws with opn := opn0 }) rfl ?_
          refine AWL.y rfl rfl (B rfl) (Yv.move rfl (E rfl rfl)) ?_
          refine AWL.y rfl rfl (B rfl) (Yv.extract rfl (E rfl rfl) rfl) ?_
          refine AWL.y rfl rfl (B rfl) (Yv.extract rfl (E rfl rfl) rfl) ?_
          refine AWL.y rfl rfl (B rfl) (Yv.assign rfl (E rfl rfl)) ?_
          refine AWL.y rfl rfl (B rfl) (Yv.assign rfl (E rfl rfl)) ?_
          refine AWL.nil ?_
          refine AW.rseq ?_
          refine AWL.y rfl rfl (B rfl) (Yv.move rfl (E rfl rfl)) ?_
          refine AWL.y rfl rfl (B rfl) (Yv.move rfl (E rfl rfl)) ?_
          refine AWL.callAll rfl rfl (B rfl) rfl ce_17 (E rfl rfl) (evsC (E rfl rfl) (evsC (E rfl rfl) (evsC (E rfl rfl) evs0))) (SysOpen17 b m { ws with opn := opn0 } name 0 (8 + sizeB (parts.take i)) hwc (by omega)) ?_
          rintro t94 S94 ⟨rfl, A94, c94, tA94, tc94, rfl⟩
          rw [openS_read (by rw [hor]; decide), hor]
          have hR0 : KR q name (joinF parts) 0 (8 + sizeB parts) { ({ ws with opn := opn0 } : WS) with opn := opn0.set (freeIx opn0) ⟨4, name, 0⟩ } := by
            have hst := sizeB_take parts i
            have hwn : WB (8 + sizeB parts) { ws with opn := opn0 } := ⟨rfl, by have := hwc.tr; omega, fun e he => by have := hwc.txt e he; omega, fun f hf => by have := hwc.fl f hf; omega, fun d hd => by have := hwc.pl d hd; omega, by have := hwc.sin; omega⟩
            exact ⟨wb_opn hwn _ _ (Nat.zero_le _), hK.uq, hK.hq, hK.nm, hK.bytes.trans (by rw [hi2]), rfl, hK.tr.trans (by rw [hi2]), Nat.zero_le _⟩
          refine AWL.y rfl rfl (B rfl) (Yv.assign rfl (E rfl rfl)) ?_
          refine AWL.nil ?_
          refine AW.rseq ?_
          refine AWL.y rfl rfl (B rfl) (Yv.move rfl (E rfl rfl)) ?_
          refine AWL.callAll rfl rfl (B rfl) rfl ce_14 (E rfl rfl) (evsC (E rfl rfl) evs0) (Trace14 b m _ (8 + sizeB parts) hR0.wb (by omega)) ?_
          rintro t96 S96 ⟨rfl, rfl⟩
          refine AWL.retype (k := 96) (t' := .sl 3 ([(⟨3, name, (joinF parts)⟩ : Evt)].flatMap evCells)) rfl (fun w L u h => by rw [← hR0.tr]; exact h) ?_
          refine AWL.y rfl rfl (B rfl) (Yv.lenSl rfl so_33 (B rfl) (E rfl rfl) len_ev) ?_
          refine AWL.y rfl rfl (B rfl) (Yv.assign rfl (E rfl rfl)) ?_
          refine AWL.nil ?_
          refine AW.rseq ?_
          refine AWL.y rfl rfl (B rfl) (Yv.assign rfl (E rfl rfl)) ?_
          refine AWL.nil ?_
          refine AW.seq ?_
          refine AW.rseq ?_
          refine AWL.y rfl rfl (B rfl) (Yv.assign rfl (E rfl rfl)) ?_
          refine AWL.nil ?_
          refine AW.block ?_
          refine AW.loop3 (fun (k : Nat) (g : Nat) (ws : WS) => [(0, true, sv name), (2, true, .sl 1 (parts.map sv)), (3, true, .sl 1 (sizes.map fun z => T.v (.int .u64 z))), (9, true, wp b), (13, true, sv (joinF parts)), (16, true, .v (.int .i64 0)), (17, true, sv (joinF parts)), (18, true, .v (.bool true)), (19, true, .v (.int .i64 3)), (20, true, .v (.int .i64 1)), (21, true, sv ((joinF parts).take g)), (22, true, .v (.int .i64 (k : Int)))]) (fun (k : Nat) (g : Nat) (ws : WS) => (WSt b m ws)) (fun (k : Nat) (g : Nat) (ws : WS) => k ≤ sizes.length ∧ KR q name (joinF parts) g (8 + sizeB parts) ws) (fun (k : Nat) (g : Nat) (ws : WS) => sizes.length - k) 0 0 ({ ({ ws with opn := opn0 } : WS) with opn := opn0.set (freeIx opn0) ⟨4, name, 0⟩ }) ?_ ?_ ?_ ?_
          · exact ⟨Nat.zero_le _, hR0⟩
          · exact (Sub.cons rfl rfl (Sub.cons rfl rfl (Sub.cons rfl rfl (Sub.cons rfl rfl (Sub.cons rfl (by rw [hi2]) (Sub.cons rfl rfl (Sub.cons rfl rfl (Sub.cons rfl rfl (Sub.cons rfl rfl (Sub.cons rfl rfl (Sub.cons rfl rfl (Sub.cons rfl rfl Sub.nil))))))))))))
          · rfl
          ·
            intro k g ws hinv
            obtain ⟨hk, hR⟩ := hinv
            have hgle := hR.le
            have htk : ((joinF parts).take g).length ≤ (joinF parts).length := by rw [List.length_take]; omega
            have hrl2 := rdF_len (joinF parts) g 9223372036854775808
            refine AW.seq ?_
            refine AW.rseq ?_
            refine AWL.y rfl rfl (B rfl) (Yv.move rfl (E rfl rfl)) ?_
            refine AWL.y rfl rfl (B rfl) (Yv.move rfl (E rfl rfl)) ?_
            refine AWL.y rfl rfl (B rfl) (Yv.lenSl rfl so_44 (B rfl) (E rfl rfl) len_u64s) ?_
            refine AWL.y rfl rfl (B rfl) (Yv.lss rfl (E rfl rfl) (E rfl rfl)) ?_
            refine AWL.nil ?_
            refine AW.cond rfl (fun h4t => ?_) (fun h4f => ?_)
            ·
              try replace h4t := of_decide_eq_true h4t
              have hrl := rdF_len (joinF parts) g (sizes.getD k 0)
              have hzk := hsz _ (getD_memZ (l := sizes) (j := k) (by omega))
              refine AW.skip ?_
              refine AW.seq ?_
              refine AW.block ?_
              refine AW.rseq ?_
              refine AWL.y rfl rfl (B rfl) (Yv.move rfl (E rfl rfl)) ?_
              refine AWL.y rfl rfl (B rfl) (Yv.move rfl (E rfl rfl)) ?_
              refine AWL.y rfl rfl (B rfl) (Yv.move rfl (E rfl rfl)) ?_
              refine AWL.y rfl rfl (B rfl) (Yv.move rfl (E rfl rfl)) ?_
              refine AWL.y rfl rfl (B rfl) (Yv.indexSl rfl ss_44 (B rfl) (E rfl rfl) (E rfl rfl) (fun hg => ⟨rfl, (by first | omega | (simp only [len_svs, len_u64s, len_ev]; omega))⟩)) ?_
              refine AWL.y rfl rfl (B rfl) (Yv.loadRp rfl ag_51 (E rfl rfl) (fun hg => u64_get' (by first | omega | (simp only [Bool.or_eq_true, Bool.and_eq_true, Bool.or_eq_false_iff, Bool.and_eq_false_iff, Bool.not_eq_true', Bool.not_eq_false', decide_eq_true_eq, decide_eq_false_iff_not, Decidable.not_not] at hg; omega)))) ?_
              refine AWL.callAll rfl rfl (B rfl) rfl ce_20 (E rfl rfl) (evsC (E rfl rfl) (evsC (E rfl rfl) (evsC (E rfl rfl) evs0))) (SysRead20 b m ws 3 q (sizes.getD k 0) (8 + sizeB parts) (by decide) (by rw [hR.desc]) hR.hq hR.uq (by rw [hR.desc, hR.nm]) (by rw [hR.desc, hR.bytes]; exact hR.le) hR.wb (by omega) (hsz _ (getD_memZ (by omega))).1 (hsz _ (getD_memZ (by omega))).2) ?_
              rintro t111 S111 ⟨rfl, rfl⟩
              have hnx := hR.read (sizes.getD k 0) (by omega)
              have hpg : (ws.opn.getD 3 default).place = g := by rw [hR.desc]
              rw [hR.bytes, hpg]
              rw [hpg] at hnx
              refine AWL.y rfl rfl (B rfl) (Yv.move rfl (E rfl rfl)) ?_
              refine AWL.y rfl rfl (B rfl) (Yv.extract rfl (E rfl rfl) rfl) ?_
              refine AWL.y rfl rfl (B rfl) (Yv.extract rfl (E rfl rfl) rfl) ?_
              refine AWL.y rfl rfl (B rfl) (Yv.assign rfl (E rfl rfl)) ?_
              refine AWL.y rfl rfl (B rfl) (Yv.assign rfl (E rfl rfl)) ?_
              refine AWL.nil ?_
              refine AW.seq ?_
              refine AW.rseq ?_
              refine AWL.y rfl rfl (B rfl) (Yv.move rfl (E rfl rfl)) ?_
              refine AWL.y rfl rfl (B rfl) (Yv.move rfl (E rfl rfl)) ?_
              refine AWL.y rfl rfl (B rfl) (Yv.lenL rfl st_9 (E rfl rfl)) ?_
              refine AWL.y rfl rfl (B rfl) (Yv.neq rfl (E rfl rfl) (E rfl rfl)) ?_
              refine AWL.y rfl rfl (B rfl) (Yv.move rfl (E rfl rfl)) ?_
              refine AWL.ygF rfl rfl rfl rfl (B rfl) (Yv.move rfl (E rfl rfl)) ?_
              refine AWL.ygF rfl rfl rfl rfl (B rfl) (Yv.lenL rfl st_9 (Eg rfl rfl id)) ?_
              refine AWL.ygF rfl rfl rfl rfl (B rfl) (Yv.convN_u64 rfl Try.underlying3 kd_51 (Eg rfl rfl id) (fun hg => by first | omega | (simp only [Bool.and_eq_true, Bool.or_eq_false_iff, Bool.not_eq_true', Bool.not_eq_false', decide_eq_true_eq, decide_eq_false_iff_not] at hg; omega))) ?_
              refine AWL.ygF rfl rfl rfl rfl (B rfl) (Yv.move rfl (E rfl rfl)) ?_
              refine AWL.ygF rfl rfl rfl rfl (B rfl) (Yv.move rfl (E rfl rfl)) ?_
              refine AWL.ygF rfl rfl rfl rfl (B rfl) (Yv.indexSl rfl ss_44 (B rfl) (Eg rfl rfl id) (Eg rfl rfl id) (fun hg => ⟨rfl, (by first | omega | (simp only [len_svs, len_u64s, len_ev]; omega) | (simp only [len_svs, len_u64s, len_ev]; simp only [Bool.and_eq_true, Bool.or_eq_false_iff, Bool.not_eq_true', Bool.not_eq_false', decide_eq_true_eq, decide_eq_false_iff_not] at hg; omega))⟩)) ?_
              refine AWL.ygF rfl rfl rfl rfl (B rfl) (Yv.loadRp rfl ag_51 (Eg rfl rfl id) (fun hg => u64_get' (by first | omega | (simp only [Bool.or_eq_true, Bool.and_eq_true, Bool.or_eq_false_iff, Bool.and_eq_false_iff, Bool.not_eq_true', Bool.not_eq_false', decide_eq_true_eq, decide_eq_false_iff_not, Decidable.not_not] at hg; omega)))) ?_
              refine AWL.ygF rfl rfl rfl rfl (B rfl) (Yv.gtr rfl (Eg rfl rfl id) (Eg rfl rfl id)) ?_
              refine AWL.y rfl rfl (B rfl) (Yv.pickOr (t := .const (.bool true)) rfl (E rfl rfl) (Eg rfl rfl id)) ?_
              refine AWL.nil ?_
              refine AW.cond rfl (fun h5t => ?_) (fun h5f => ?_)
              ·
                try replace h5t := of_decide_eq_true h5t
                exfalso
                simp only [Bool.or_eq_true, Bool.and_eq_true, Bool.or_eq_false_iff, Bool.and_eq_false_iff, Bool.not_eq_true', Bool.not_eq_false', decide_eq_true_eq, decide_eq_false_iff_not, Decidable.not_not] at h5t
                rcases h5t with h | h
                · first | exact h rfl | exact h trivial
                · rw [hrl] at h; omega
              ·
                try replace h5f := of_decide_eq_false h5f
                refine AW.skip ?_
                refine AW.region ?_
                refine AWL.y rfl rfl (B rfl) (Yv.move rfl (E rfl rfl)) ?_
                refine AWL.y rfl rfl (B rfl) (Yv.move rfl (E rfl rfl)) ?_
                refine AWL.y rfl rfl (B rfl) (Yv.addL rfl (E rfl rfl) (E rfl rfl) (fun hg => by omega)) ?_
                refine AWL.y rfl rfl (B rfl) (Yv.assign rfl (E rfl rfl)) ?_
                refine AWL.nil ?_
                refine AW.region ?_
                refine AWL.y rfl rfl (B rfl) (Yv.move rfl (E rfl rfl)) ?_
                refine AWL.y rfl rfl (B rfl) (Yv.addN_i64 rfl (E rfl rfl) (E rfl rfl) (fun hg => by omega)) ?_
                refine AWL.y rfl rfl (B rfl) (Yv.assign rfl (E rfl rfl)) ?_
                refine AWL.nil ?_
                refine ⟨k + 1, g + (rdF (joinF parts) g (sizes.getD k 0)).length, _, ⟨by omega, hnx⟩, by omega, ?_, rfl⟩
                exact (Sub.cons rfl rfl (Sub.cons rfl rfl (Sub.cons rfl rfl (Sub.cons rfl rfl (Sub.cons rfl rfl (Sub.cons rfl rfl (Sub.cons rfl rfl (Sub.cons rfl rfl (Sub.cons rfl rfl (Sub.cons rfl rfl (Sub.cons rfl (by rw [take_read]) (Sub.cons rfl (by simp) Sub.nil))))))))))))
            ·
              try replace h4f := of_decide_eq_false h4f
              refine AW.exit ?_
              refine AW.rseq ?_
              refine AWL.y rfl rfl (B rfl) (Yv.move rfl (E rfl rfl)) ?_
              refine AWL.y rfl rfl (B rfl) (Yv.move rfl (E rfl rfl)) ?_
              refine AWL.callAll rfl rfl (B rfl) rfl ce_20 (E rfl rfl) (evsC (E rfl rfl) (evsC (E rfl rfl) (evsC (E rfl rfl) evs0))) (SysRead20 b m ws 3 q 9223372036854775808 (8 + sizeB parts) (by decide) (by rw [hR.desc]) hR.hq hR.uq (by rw [hR.desc, hR.nm]) (by rw [hR.desc, hR.bytes]; exact hR.le) hR.wb (by omega) (by decide) (by decide)) ?_
              rintro t134 S134 ⟨rfl, rfl⟩
              have hnx := hR.read 9223372036854775808 (by omega)
              have hpg : (ws.opn.getD 3 default).place = g := by rw [hR.desc]
              rw [hR.bytes, hpg]
              rw [hpg] at hnx
              refine AWL.y rfl rfl (B rfl) (Yv.move rfl (E rfl rfl)) ?_
              refine AWL.y rfl rfl (B rfl) (Yv.extract rfl (E rfl rfl) rfl) ?_
              refine AWL.y rfl rfl (B rfl) (Yv.extract rfl (E rfl rfl) rfl) ?_
              refine AWL.y rfl rfl (B rfl) (Yv.assign rfl (E rfl rfl)) ?_
              refine AWL.y rfl rfl (B rfl) (Yv.assign rfl (E rfl rfl)) ?_
              refine AWL.nil ?_
              refine AW.rseq ?_
              refine AWL.y rfl rfl (B rfl) (Yv.move rfl (E rfl rfl)) ?_
              refine AWL.y rfl rfl (B rfl) (Yv.move rfl (E rfl rfl)) ?_
              refine AWL.y rfl rfl (B rfl) (Yv.addL rfl (E rfl rfl) (E rfl rfl) (fun hg => by omega)) ?_
              refine AWL.y rfl rfl (B rfl) (Yv.assign rfl (E rfl rfl)) ?_
              refine AWL.nil ?_
              refine AW.rseq ?_
              refine AWL.y rfl rfl (B rfl) (Yv.move rfl (E rfl rfl)) ?_
              refine AWL.callAll rfl rfl (B rfl) rfl ce_14 (E rfl rfl) (evsC (E rfl rfl) evs0) (Trace14 b m _ (8 + sizeB parts) hnx.wb (by omega)) ?_
              rintro t141 S141 ⟨rfl, rfl⟩
              refine AWL.retype (k := 141) (t' := .sl 3 ([(⟨3, name, (joinF parts)⟩ : Evt)].flatMap evCells)) rfl (fun w L u h => by rw [← hR.tr]; exact h) ?_
              refine AWL.y rfl rfl (B rfl) (Yv.assign rfl (E rfl rfl)) ?_
              refine AWL.nil ?_
              refine AW.rseq ?_
              refine AWL.y rfl rfl (B rfl) (Yv.move rfl (E rfl rfl)) ?_
              refine AWL.y rfl rfl (B rfl) (Yv.eql rfl (E rfl rfl) (E rfl rfl)) ?_
              refine AWL.y rfl rfl (B rfl) (Yv.move rfl (E rfl rfl)) ?_
              refine AWL.ygT rfl rfl rfl rfl (B rfl) (Yv.move rfl (E rfl rfl)) ?_
              refine AWL.y rfl rfl (B rfl) (Yv.pickAnd rfl (E rfl rfl) (Eg rfl rfl id)) ?_
              refine AWL.y rfl rfl (B rfl) (Yv.move rfl (E rfl rfl)) ?_
              refine AWL.ygT rfl rfl rfl rfl (B rfl) (Yv.move rfl (E rfl rfl)) ?_
              refine AWL.ygT rfl rfl rfl rfl (B rfl) (Yv.move rfl (E rfl rfl)) ?_
              refine AWL.ygT rfl rfl rfl rfl (B rfl) (Yv.eqlL rfl (Eg rfl rfl id) (Eg rfl rfl id)) ?_
              refine AWL.y rfl rfl (B rfl) (Yv.pickAnd rfl (E rfl rfl) (Eg rfl rfl id)) ?_
              refine AWL.y rfl rfl (B rfl) (Yv.move rfl (E rfl rfl)) ?_
              refine AWL.ygT rfl rfl rfl rfl (B rfl) (Yv.move rfl (E rfl rfl)) ?_
              refine AWL.ygT rfl rfl rfl rfl (B rfl) (Yv.geq rfl (Eg rfl rfl id) (E rfl rfl)) ?_
              refine AWL.y rfl rfl (B rfl) (Yv.pickAnd rfl (E rfl rfl) (Eg rfl rfl id)) ?_
              refine AWL.y rfl rfl (B rfl) (Yv.move rfl (E rfl rfl)) ?_
              refine AWL.ygT rfl rfl rfl rfl (B rfl) (Yv.move rfl (E rfl rfl)) ?_
              refine AWL.ygT rfl rfl rfl rfl (B rfl) (Yv.move rfl (E rfl rfl)) ?_
              refine AWL.ygT rfl rfl rfl rfl (B rfl) (Yv.eqlL rfl (Eg rfl rfl id) (Eg rfl rfl id)) ?_
              refine AWL.y rfl rfl (B rfl) (Yv.pickAnd rfl (E rfl rfl) (Eg rfl rfl id)) ?_
              refine AWL.y rfl rfl (B rfl) (Yv.move rfl (E rfl rfl)) ?_
              refine AWL.ygT rfl rfl rfl rfl (B rfl) (Yv.move rfl (E rfl rfl)) ?_
              refine AWL.ygT rfl rfl rfl rfl (B rfl) (Yv.lenSl rfl so_33 (B rfl) (Eg rfl rfl id) len_ev) ?_
              refine AWL.ygT rfl rfl rfl rfl (B rfl) (Yv.move rfl (E rfl rfl)) ?_
              refine AWL.ygT rfl rfl rfl rfl (B rfl) (Yv.eql rfl (Eg rfl rfl id) (Eg rfl rfl id)) ?_
              refine AWL.y rfl rfl (B rfl) (Yv.pickAnd rfl (E rfl rfl) (Eg rfl rfl id)) ?_
              refine AWL.y rfl rfl (B rfl) (Yv.move rfl (E rfl rfl)) ?_
              refine AWL.ygT rfl rfl rfl rfl (B rfl) (Yv.move rfl (E rfl rfl)) ?_
              refine AWL.callPgT rfl rfl rfl rfl (B rfl) rfl ce_15 (E rfl rfl) (evsC (Eg rfl rfl id) (evsC (E rfl rfl) evs0)) (fun hg => told15 [⟨3, name, (joinF parts)⟩] 3 (show (1 : Nat) ≤ 1099511627776 by decide) (by rw [toldF_one, if_pos rfl]; show ((joinF parts)).length ≤ _; omega)) (fun t S h => h) ?_
              refine AWL.ygT rfl rfl rfl rfl (B rfl) (Yv.move rfl (E rfl rfl)) ?_
              refine AWL.ygT rfl rfl rfl rfl (B rfl) (Yv.eqlL rfl (Eg rfl rfl id) (Eg rfl rfl id)) ?_
              refine AWL.y rfl rfl (B rfl) (Yv.pickAnd rfl (E rfl rfl) (Eg rfl rfl id)) ?_
              refine AWL.y rfl rfl (B rfl) (Yv.assign rfl (E rfl rfl)) ?_
              refine AWL.nil ?_
              refine AW.ret (retI (.tmp rfl .nil) ?_)
              have hrd : (joinF parts).take g ++ rdF (joinF parts) g 9223372036854775808 = (joinF parts) := by
                rw [take_read, rdF_len, List.take_of_length_le (by omega)]
              rw [hrd, toldF_one]
              simp [tupOf]

end Go.Proofs.Ytmiggpnkicdijaa
