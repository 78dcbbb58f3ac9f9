/-
  CONTRACTS of the world package: writing a file; of the laws: pick, told; walked by program.
-/
import Derived.Test.YtmiggpnkicdijaaWk6
import Derived.Test.YtmiggpnkicdijaaWr
namespace Go.Proofs.Ytmiggpnkicdijaa
open Go Go.RowKit
set_option linter.unusedVariables false

set_option maxHeartbeats 400000 in
theorem pick11 (c n : Int) (h0 : -9223372036854775808 ≤ c) (h1 : c ≤ 9223372036854775807) (h2 : 0 < n) :
    ACalls Try.prog 11 [.v (.int .i64 c), .v (.int .i64 n)] [] fun t S => t = .v (.int .i64 (pickF c n)) := by
  refine ACalls.intro Try.func11 rfl Try.ntmps11 (Nat.le_of_ble_eq_true rfl) rfl fun X w0 => ?_
  refine AW.rseq ?_
  refine AWL.y rfl rfl (B rfl) (Yv.assign rfl (E rfl rfl)) ?_
  refine AWL.nil ?_
  refine AW.seq ?_
  refine AW.rseq ?_
  refine AWL.y rfl rfl (B rfl) (Yv.move rfl (E rfl rfl)) ?_
  refine AWL.y rfl rfl (B rfl) (Yv.lss rfl (E rfl rfl) (E rfl rfl)) ?_
  refine AWL.nil ?_
  refine AW.cond rfl (fun h0t => ?_) (fun h0f => ?_)
  ·
    try replace h0t := of_decide_eq_true h0t
    refine AW.region ?_
    refine AWL.y rfl rfl (B rfl) (Yv.move rfl (E rfl rfl)) ?_
    refine AWL.y rfl rfl (B rfl) (Yv.addN_i64 rfl (E rfl rfl) (E rfl rfl) (fun hg => by omega)) ?_
    refine AWL.y rfl rfl (B rfl) (Yv.neg rfl (E rfl rfl)) ?_
    have e9 : IntKind.i64.wrap (0 - (c + 1)) = -(c + 1) := by rw [IntWalk.i64_in _ (by omega)]; omega
    rw [e9]
    refine AWL.y rfl rfl (B rfl) (Yv.assign rfl (E rfl rfl)) ?_
    refine AWL.nil ?_
    refine AW.rseq ?_
    refine AWL.y rfl rfl (B rfl) (Yv.move rfl (E rfl rfl)) ?_
    refine AWL.y rfl rfl (B rfl) (Yv.move rfl (E rfl rfl)) ?_
    refine AWL.y rfl rfl (B rfl) (Yv.remN rfl (E rfl rfl) (E rfl rfl) (fun hg => by omega)) ?_
    refine AWL.y rfl rfl (B rfl) (Yv.assign rfl (E rfl rfl)) ?_
    refine AWL.nil ?_
    refine AW.ret (retI (.tmp rfl .nil) ?_)
    unfold pickF; rw [if_pos h0t]; rfl
  ·
    try replace h0f := of_decide_eq_false h0f
    refine AW.skip ?_
    refine AW.rseq ?_
    refine AWL.y rfl rfl (B rfl) (Yv.move rfl (E rfl rfl)) ?_
    refine AWL.y rfl rfl (B rfl) (Yv.move rfl (E rfl rfl)) ?_
    refine AWL.y rfl rfl (B rfl) (Yv.remN rfl (E rfl rfl) (E rfl rfl) (fun hg => by omega)) ?_
    refine AWL.y rfl rfl (B rfl) (Yv.assign rfl (E rfl rfl)) ?_
    refine AWL.nil ?_
    refine AW.ret (retI (.tmp rfl .nil) ?_)
    unfold pickF; rw [if_neg h0f]; rfl

set_option maxHeartbeats 400000 in
theorem told15 (l : List Evt) (k : Int) (hl : l.length ≤ 1099511627776) (ht : (toldF k l).length ≤ 1099511627776) :
    ACalls Try.prog 15 [.sl 3 (l.flatMap evCells), .v (.int .i64 k)] [] fun t S => t = sv (toldF k l) := by
  refine ACalls.intro Try.func15 rfl Try.ntmps15 (Nat.le_of_ble_eq_true rfl) rfl fun X w0 => ?_
  refine AW.rseq ?_
  refine AWL.y rfl rfl (B rfl) (Yv.assign rfl (E rfl rfl)) ?_
  refine AWL.nil ?_
  refine AW.rseq ?_
  refine AWL.y rfl rfl (B rfl) (Yv.assign rfl (E rfl rfl)) ?_
  refine AWL.nil ?_
  refine AW.seq ?_
  refine AW.rseq ?_
  refine AWL.y rfl rfl (B rfl) (Yv.assign rfl (E rfl rfl)) ?_
  refine AWL.nil ?_
  refine AW.block ?_
  refine AW.loop (fun (j : Nat) => [(0, true, .sl 3 (l.flatMap evCells)), (1, true, .v (.int .i64 k)), (5, true, sv (toldF k (l.take j))), (6, true, .v (.int .i64 (j : Int)))]) (fun (j : Nat) => []) (fun (j : Nat) => j ≤ l.length) (fun (j : Nat) => l.length - j) 0 ?_ ?_ ?_ ?_
  · exact Nat.zero_le _
  · exact (Sub.cons rfl rfl (Sub.cons rfl rfl (Sub.cons rfl rfl (Sub.cons rfl rfl Sub.nil))))
  · rfl
  ·
    intro j hinv
    have h1 := toldF_take_le k l (j + 1)
    refine AW.seq ?_
    refine AW.rseq ?_
    refine AWL.y rfl rfl (B rfl) (Yv.move rfl (E rfl rfl)) ?_
    refine AWL.y rfl rfl (B rfl) (Yv.move rfl (E rfl rfl)) ?_
    refine AWL.y rfl rfl (B rfl) (Yv.lenSl rfl so_33 (B rfl) (E rfl rfl) len_ev) ?_
    refine AWL.y rfl rfl (B rfl) (Yv.lss rfl (E rfl rfl) (E rfl rfl)) ?_
    refine AWL.nil ?_
    refine AW.cond rfl (fun h0t => ?_) (fun h0f => ?_)
    ·
      try replace h0t := of_decide_eq_true h0t
      have hsu := toldF_succ (k := k) (l := l) (j := j) (by omega)
      refine AW.skip ?_
      refine AW.seq ?_
      refine AW.block ?_
      refine AW.rseq ?_
      refine AWL.y rfl rfl (B rfl) (Yv.move rfl (E rfl rfl)) ?_
      refine AWL.y rfl rfl (B rfl) (Yv.move rfl (E rfl rfl)) ?_
      refine AWL.y rfl rfl (B rfl) (Yv.indexSl rfl ss_33 (B rfl) (E rfl rfl) (E rfl rfl) (fun hg => ⟨rfl, (by first | omega | (simp only [len_ev]; omega))⟩)) ?_
      refine AWL.y rfl rfl (B rfl) (Yv.fieldRp rfl fo_36_0 (E rfl rfl)) ?_
      refine AWL.y rfl rfl (B rfl) (Yv.loadRp rfl ag_3 (E rfl rfl) (fun hg => evk_at (by first | omega | (simp only [Bool.or_eq_true, Bool.and_eq_true, Bool.or_eq_false_iff, Bool.and_eq_false_iff, Bool.not_eq_true', Bool.not_eq_false', decide_eq_true_eq, decide_eq_false_iff_not, Decidable.not_not] at hg; omega)))) ?_
      refine AWL.y rfl rfl (B rfl) (Yv.move rfl (E rfl rfl)) ?_
      refine AWL.y rfl rfl (B rfl) (Yv.eql rfl (E rfl rfl) (E rfl rfl)) ?_
      refine AWL.nil ?_
      refine AW.cond rfl (fun h1t => ?_) (fun h1f => ?_)
      ·
        try replace h1t := of_decide_eq_true h1t
        rw [if_pos h1t] at hsu
        rw [hsu, List.length_append] at h1
        refine AW.region ?_
        refine AWL.y rfl rfl (B rfl) (Yv.move rfl (E rfl rfl)) ?_
        refine AWL.y rfl rfl (B rfl) (Yv.move rfl (E rfl rfl)) ?_
        refine AWL.y rfl rfl (B rfl) (Yv.move rfl (E rfl rfl)) ?_
        refine AWL.y rfl rfl (B rfl) (Yv.indexSl rfl ss_33 (B rfl) (E rfl rfl) (E rfl rfl) (fun hg => ⟨rfl, (by first | omega | (simp only [len_ev]; omega))⟩)) ?_
        refine AWL.y rfl rfl (B rfl) (Yv.fieldRp rfl fo_36_2 (E rfl rfl)) ?_
        refine AWL.y rfl rfl (B rfl) (Yv.loadRp rfl ag_9 (E rfl rfl) (fun hg => evt_at (by first | omega | (simp only [Bool.or_eq_true, Bool.and_eq_true, Bool.or_eq_false_iff, Bool.and_eq_false_iff, Bool.not_eq_true', Bool.not_eq_false', decide_eq_true_eq, decide_eq_false_iff_not, Decidable.not_not] at hg; omega)))) ?_
        refine AWL.y rfl rfl (B rfl) (Yv.addL rfl (E rfl rfl) (E rfl rfl) (fun hg => by omega)) ?_
        refine AWL.y rfl rfl (B rfl) (Yv.assign rfl (E rfl rfl)) ?_
        refine AWL.nil ?_
        refine AW.region ?_
        refine AWL.y rfl rfl (B rfl) (Yv.move rfl (E rfl rfl)) ?_
        refine AWL.y rfl rfl (B rfl) (Yv.addN_i64 rfl (E rfl rfl) (E rfl rfl) (fun hg => by omega)) ?_
        refine AWL.y rfl rfl (B rfl) (Yv.assign rfl (E rfl rfl)) ?_
        refine AWL.nil ?_
        refine ⟨j + 1, by omega, by omega, (Sub.cons rfl rfl (Sub.cons rfl rfl (Sub.cons rfl (by rw [hsu]) (Sub.cons rfl (by simp) Sub.nil)))), rfl⟩
      ·
        try replace h1f := of_decide_eq_false h1f
        rw [if_neg h1f, List.append_nil] at hsu
        refine AW.skip ?_
        refine AW.region ?_
        refine AWL.y rfl rfl (B rfl) (Yv.move rfl (E rfl rfl)) ?_
        refine AWL.y rfl rfl (B rfl) (Yv.addN_i64 rfl (E rfl rfl) (E rfl rfl) (fun hg => by omega)) ?_
        refine AWL.y rfl rfl (B rfl) (Yv.assign rfl (E rfl rfl)) ?_
        refine AWL.nil ?_
        refine ⟨j + 1, by omega, by omega, (Sub.cons rfl rfl (Sub.cons rfl rfl (Sub.cons rfl (by rw [hsu]) (Sub.cons rfl (by simp) Sub.nil)))), rfl⟩
    ·
      try replace h0f := of_decide_eq_false h0f
      refine AW.exit ?_
      refine AW.rseq ?_
      refine AWL.y rfl rfl (B rfl) (Yv.move rfl (E rfl rfl)) ?_
      refine AWL.y rfl rfl (B rfl) (Yv.assign rfl (E rfl rfl)) ?_
      refine AWL.nil ?_
      refine AW.ret (retI (.tmp rfl .nil) ?_)
      rw [List.take_of_length_le (by omega)]; rfl

set_option maxHeartbeats 400000 in
theorem WriteFile28 (b m : Nat) (ws : WS) (name s : List UInt8) (n : Nat) (hw : WB n ws) (hn : n ≤ 274877906944) (hs : s.length ≤ 274877906944) (hu : Uniq ws.files) :
    ACalls Try.prog 28 [wp b, sv name, sv s] (WSt b m ws) (fun t S => (openR name 577 ws < 0 ∧ t = .v (.bool false) ∧ S = WSt b m ws) ∨ (¬ openR name 577 ws < 0 ∧ t = .v (.bool true) ∧ ∃ ws', S = WSt b m ws' ∧ ws'.stdin = ws.stdin ∧ ws'.opn = ws.opn.set (freeIx ws.opn) ⟨0, [], 0⟩ ∧ ws'.trace = sayF 3 name s (ws.trace ++ [⟨3, name, []⟩]) ∧ Uniq ws'.files ∧ WB (n + s.length + 2) ws' ∧ ∃ q, q < ws'.files.length ∧ (ws'.files.getD q default).name = name ∧ (ws'.files.getD q default).bytes = s)) := by
  refine ACalls.intro Try.func28 rfl Try.ntmps28 (Nat.le_of_ble_eq_true rfl) rfl fun X w0 => ?_
  refine AW.rseq ?_
  refine AWL.y rfl rfl (B rfl) (Yv.assign rfl (E rfl rfl)) ?_
  refine AWL.nil ?_
  refine AW.rseq ?_
  refine AWL.y rfl rfl (B rfl) (Yv.move rfl (E rfl rfl)) ?_
  refine AWL.y rfl rfl (B rfl) (Yv.move rfl (E rfl rfl)) ?_
  refine AWL.callAll rfl rfl (B rfl) rfl ce_17 (E rfl rfl) (evsC (E rfl rfl) (evsC (E rfl rfl) (evsC (E rfl rfl) evs0))) (SysOpen17 b m ws name 577 n hw (by omega)) ?_
  rintro t10 S10 ⟨rfl, A10, c10, tA10, tc10, rfl⟩
  refine AWL.y rfl rfl (B rfl) (Yv.assign rfl (E rfl rfl)) ?_
  refine AWL.nil ?_
  refine AW.seq ?_
  refine AW.rseq ?_
  refine AWL.y rfl rfl (B rfl) (Yv.move rfl (E rfl rfl)) ?_
  refine AWL.y rfl rfl (B rfl) (Yv.lss rfl (E rfl rfl) (E rfl rfl)) ?_
  refine AWL.nil ?_
  refine AW.cond rfl (fun h0t => ?_) (fun h0f => ?_)
  ·
    try replace h0t := of_decide_eq_true h0t
    rw [openS_neg h0t]
    refine AW.rseq ?_
    refine AWL.y rfl rfl (B rfl) (Yv.assign rfl (E rfl rfl)) ?_
    refine AWL.nil ?_
    refine AW.ret (retI (.tmp rfl .nil) ?_)
    exact .inl ⟨h0t, rfl, rfl⟩
  ·
    try replace h0f := of_decide_eq_false h0f
    have hok := open_ok h0f
    have hixl : (freeIx ws.opn) < ws.opn.length := by have := hw.opn; have := hok.ix; omega
    obtain ⟨q, hq, hqf⟩ := put_q ⟨name, [], A10, c10⟩ ws.files
    have hgd : (ws.opn.set (freeIx ws.opn) ⟨5, name, 0⟩).getD (freeIx ws.opn) default = ⟨5, name, 0⟩ := getD_set hixl _ _
    rw [openS_write h0f]
    have hw1 := wb_open hw (freeIx ws.opn) name A10 tA10 c10 tc10
    refine AW.skip ?_
    rw [hok.is]
    refine AW.rseq ?_
    refine AWL.y rfl rfl (B rfl) (Yv.move rfl (E rfl rfl)) ?_
    refine AWL.y rfl rfl (B rfl) (Yv.move rfl (E rfl rfl)) ?_
    refine AWL.y rfl rfl (B rfl) (Yv.move rfl (E rfl rfl)) ?_
    refine AWL.callAll rfl rfl (B rfl) rfl ce_13 (E rfl rfl) (evsC (E rfl rfl) (evsC (E rfl rfl) (evsC (E rfl rfl) evs0))) (SysWrite13_5 b m { ws with opn := ws.opn.set (freeIx ws.opn) ⟨5, name, 0⟩, files := putF ⟨name, [], A10, c10⟩ ws.files, trace := ws.trace ++ [⟨3, name, []⟩], tA := tA10, tc := tc10 } (freeIx ws.opn) q s (n + 1) hok.ix (by show ((ws.opn.set _ _).getD _ _).kind = 5; rw [hgd]) hq (uniq_putF hu) (by show ((ws.opn.set _ _).getD _ _).name = ((putF _ _).getD _ _).name; rw [hgd, hqf]) hw1 (by omega) (by omega)) ?_
    rintro t16 S16 ⟨rfl, A16, c16, tA16, tc16, rfl⟩
    refine AWL.nil ?_
    have hW := wrF_is (s := s) (A := A16) (tA := tA16) (c := c16) (tc := tc16) (ws := { ws with opn := ws.opn.set (freeIx ws.opn) ⟨5, name, 0⟩, files := putF ⟨name, [], A10, c10⟩ ws.files, trace := ws.trace ++ [⟨3, name, []⟩], tA := tA10, tc := tc10 }) (j := (freeIx ws.opn)) (q := q) (by show _ < (ws.opn.set _ _).length; rw [List.length_set]; have := hw.opn; have := hok.ix; omega) hq
    have hw2 := wrF_wb (s := s) (A := A16) (tA := tA16) (c := c16) (tc := tc16) hok.ix hq hw1
    refine AW.rseq ?_
    refine AWL.y rfl rfl (B rfl) (Yv.move rfl (E rfl rfl)) ?_
    refine AWL.y rfl rfl (B rfl) (Yv.move rfl (E rfl rfl)) ?_
    refine AWL.callAll rfl rfl (B rfl) rfl ce_18 (E rfl rfl) (evsC (E rfl rfl) (evsC (E rfl rfl) evs0)) (SysClose18 b m (wrF (freeIx ws.opn) q s A16 c16 tA16 tc16 { ws with opn := ws.opn.set (freeIx ws.opn) ⟨5, name, 0⟩, files := putF ⟨name, [], A10, c10⟩ ws.files, trace := ws.trace ++ [⟨3, name, []⟩], tA := tA10, tc := tc10 }) (freeIx ws.opn) (n + 1 + s.length + 1) hok.ix hw2) ?_
    rintro t19 S19 ⟨rfl, rfl⟩
    refine AWL.nil ?_
    refine AW.rseq ?_
    refine AWL.y rfl rfl (B rfl) (Yv.assign rfl (E rfl rfl)) ?_
    refine AWL.nil ?_
    refine AW.ret (retI (.tmp rfl .nil) ?_)
    obtain ⟨w1, w2, w3, w4, w5, w6⟩ := hW
    simp only [hgd] at w2 w3 w5
    refine .inr ⟨by rw [hok.is] at h0f; exact h0f, rfl, _, rfl, w1, ?_, w3, uniq_of w4 (uniq_putF hu), ?_, q, ?_, ?_, ?_⟩
    · show closeF (freeIx ws.opn) (wrF (freeIx ws.opn) q s A16 c16 tA16 tc16 _).opn = _
      unfold closeF
      rw [w2, getD_set (by rw [List.length_set]; exact hixl), if_neg (show ¬ (5 : Int) = 0 by decide), List.set_set, List.set_set]
    · have h3 := hw2
      refine ⟨?_, by have := h3.tr; simp only at this ⊢; omega, fun e he => by have := h3.txt e he; omega, fun f hf => by have := h3.fl f hf; omega, fun d hd => ?_, by have := h3.sin; simp only at this ⊢; omega⟩
      · show (closeF _ _).length = 19
        unfold closeF
        split
        · exact h3.opn
        · rw [List.length_set]; exact h3.opn
      · have hd : d ∈ closeF (freeIx ws.opn) (wrF (freeIx ws.opn) q s A16 c16 tA16 tc16 _).opn := hd
        unfold closeF at hd
        split at hd
        · have := h3.pl d hd; omega
        · rcases List.mem_or_eq_of_mem_set hd with hd | rfl
          · have := h3.pl d hd; omega
          · exact Nat.zero_le _
    · show q < (wrF (freeIx ws.opn) q s A16 c16 tA16 tc16 _).files.length
      rw [len_of w4]; exact hq
    · show ((wrF (freeIx ws.opn) q s A16 c16 tA16 tc16 _).files.getD q default).name = name
      rw [name_of w4 hq, hqf]
    · show ((wrF (freeIx ws.opn) q s A16 c16 tA16 tc16 _).files.getD q default).bytes = s
      rw [w5 (by rw [hqf]; rfl), hqf]; rfl

end Go.Proofs.Ytmiggpnkicdijaa
