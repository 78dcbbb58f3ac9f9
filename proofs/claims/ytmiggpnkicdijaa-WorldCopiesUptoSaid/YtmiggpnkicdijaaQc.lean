/-
  TEXTS JOINED: Wk13, Dl, Wk14, Do, Wk15, Dr, Wk16, Dv, Wk17, Df, Wk18, Dn, Wk19, Dg, Wk20, Rg, Wk21, En, Wk22.
-/
import Derived.Test.YtmiggpnkicdijaaQb
set_option linter.unusedSimpArgs false
set_option linter.unusedVariables false
set_option linter.unusedSectionVars false
set_option linter.unnecessarySimpa false
namespace Go.Proofs.Ytmiggpnkicdijaa
open Go Go.RowKit
set_option linter.unusedVariables false
set_option linter.unnecessarySimpa false
set_option linter.unusedSimpArgs false

set_option maxHeartbeats 400000 in
theorem zero55 (s : List UInt8) (hl : s.length ≤ 1099511627776) :
    ACalls Try.prog 55 [sv s] [] fun t S => t = .v (.bool (badN s)) := by
  refine ACalls.intro Try.func55 rfl Try.ntmps55 (Nat.le_of_ble_eq_true rfl) rfl fun X w0 => ?_
  refine AW.rseq ?_
  refine Y1 (Yv.assign rfl eV) ?_
  refine nl ?_
  refine AW.seq ?_
  refine AW.rseq ?_
  refine Y1 (Yv.assign rfl eV) ?_
  refine nl ?_
  refine AW.block ?_
  refine AW.loop (fun (j : Nat) => [(0, true, sv s), (3, true, .v (.int .i64 (j : Int)))]) (fun (j : Nat) => []) (fun (j : Nat) => j ≤ s.length ∧ ∀ i, i < j → ¬ s.getD i 0 = 0) (fun (j : Nat) => s.length - j) 0 ?_ ?_ ?_ ?_
  · exact ⟨Nat.zero_le _, fun i hi => by omega⟩
  · exact (Sub.cons rfl rfl (Sub.cons rfl rfl Sub.nil))
  · rfl
  ·
   intro j hinv
   obtain ⟨hj, hpre⟩ := hinv
   refine AW.seq ?_
   refine AW.rseq ?_
   refine Y1 (Yv.move rfl eV) ?_
   refine Y1 (Yv.move rfl eV) ?_
   refine Y1 (Yv.lenL rfl st_9 (E rfl rfl)) ?_
   refine Y1 (Yv.lss rfl eV eV) ?_
   refine nl ?_
   refine AW.cond rfl (fun h0t => ?_) (fun h0f => ?_)
   ·
    try replace h0t := of_decide_eq_true h0t
    refine AW.skip ?_
    refine AW.seq ?_
    refine AW.block ?_
    refine AW.rseq ?_
    refine Y1 (Yv.move rfl eV) ?_
    refine Y1 (Yv.move rfl eV) ?_
    refine Y1 (Yv.indexL rfl st_9 (E rfl rfl) (E rfl rfl) (fun hg => ⟨rfl, by omega⟩)) ?_
    refine Y1 (Yv.eql rfl eV eV) ?_
    refine nl ?_
    refine AW.cond rfl (fun h1t => ?_) (fun h1f => ?_)
    ·
     try replace h1t := of_decide_eq_true h1t
     have hz : s.getD j 0 = 0 := u8z.1 h1t
     refine AW.rseq ?_
     refine Y1 (Yv.assign rfl eV) ?_
     refine nl ?_
     refine AW.ret (retI (.tmp rfl .nil) ?_)
     rw [bad_yes (by omega) hz]; rfl
    try replace h1f := of_decide_eq_false h1f
    have hz : ¬ s.getD j 0 = 0 := fun q => h1f (u8z.2 q)
    refine AW.skip ?_
    refine AW.region ?_
    refine Y1 (Yv.move rfl eV) ?_
    refine Y1 (Yv.addN_i64 rfl (E rfl rfl) (E rfl rfl) (fun hg => by omega)) ?_
    refine Y1 (Yv.assign rfl eV) ?_
    refine nl ?_
    refine ⟨j + 1, ⟨by omega, fun i hi => ?_⟩, by omega, Sub.cons rfl rfl (Sub.cons rfl (by simp) Sub.nil), rfl⟩
    rcases Nat.lt_or_ge i j with h | h
    · exact hpre i h
    · rw [show i = j by omega]; exact hz
   try replace h0f := of_decide_eq_false h0f
   refine AW.exit ?_
   refine AW.rseq ?_
   refine Y1 (Yv.assign rfl eV) ?_
   refine nl ?_
   refine AW.ret (retI (.tmp rfl .nil) ?_)
   rw [bad_no (fun i hi => hpre i (by omega))]; rfl

set_option maxHeartbeats 400000 in
theorem fits33 (s : List UInt8) (hl : s.length ≤ 1099511627776) :
    ACalls Try.prog 33 [sv s] [] fun t S => t = .v (.bool ((decide (1 ≤ (s.length : Int)) && decide ((s.length : Int) ≤ 255)) && !badN s)) := by
  refine ACalls.intro Try.func33 rfl Try.ntmps33 (Nat.le_of_ble_eq_true rfl) rfl fun X w0 => ?_
  refine AW.rseq ?_
  refine Y1 (Yv.assign rfl eV) ?_
  refine nl ?_
  refine AW.rseq ?_
  refine Y1 (Yv.move rfl eV) ?_
  refine AWL.callP rfl rfl (B rfl) rfl ce_55 (E rfl rfl) (evsC (E rfl rfl) evs0) (zero55 s hl) (fun t S h => h) ?_
  refine Y1 (Yv.assign rfl eV) ?_
  refine nl ?_
  refine AW.rseq ?_
  refine Y1 (Yv.move rfl eV) ?_
  refine Y1 (Yv.lenL rfl st_9 (E rfl rfl)) ?_
  refine Y1 (Yv.geq rfl eV eV) ?_
  refine Y1 (Yv.move rfl eV) ?_
  refine AWL.ygT rfl rfl rfl rfl (B rfl) (Yv.move rfl (E rfl rfl)) ?_
  refine AWL.ygT rfl rfl rfl rfl (B rfl) (Yv.lenL rfl st_9 (Eg rfl rfl id)) ?_
  refine AWL.ygT rfl rfl rfl rfl (B rfl) (Yv.leq rfl (Eg rfl rfl id) (E rfl rfl)) ?_
  refine Y1 (Yv.pickAnd rfl (E rfl rfl) (Eg rfl rfl id)) ?_
  refine Y1 (Yv.move rfl eV) ?_
  refine AWL.ygT rfl rfl rfl rfl (B rfl) (Yv.move rfl (E rfl rfl)) ?_
  refine AWL.ygT rfl rfl rfl rfl (B rfl) (Yv.not rfl (Eg rfl rfl id)) ?_
  refine Y1 (Yv.pickAnd rfl (E rfl rfl) (Eg rfl rfl id)) ?_
  refine Y1 (Yv.assign rfl eV) ?_
  refine nl ?_
  refine AW.ret (retI (.tmp rfl .nil) ?_)
  rfl

set_option maxHeartbeats 400000 in
theorem find34F (b : Nat) (ds : DS) (n : Nat) (hnf : ds.files.length ≤ n) (hn : n ≤ 1099511627776) (name : List UInt8) :
    ACalls Try.prog 34 [wp b, sv name] (DSt b ds) (fun t S => t = .v (.int .i64 (findP name (pl ds).files)) ∧ S = DSt b ds) := by
  refine ACalls.intro Try.func34 rfl Try.ntmps34 (Nat.le_of_ble_eq_true rfl) rfl fun X w0 => ?_
  refine AW.rseq ?_
  refine Y1 (Yv.assign rfl eV) ?_
  refine nl ?_
  refine AW.seq ?_
  refine AW.rseq ?_
  refine Y1 (Yv.assign rfl eV) ?_
  refine nl ?_
  refine AW.block ?_
  refine AW.loop (fun (j : Nat) => [(0, true, wp b), (1, true, sv name), (5, true, .v (.int .i64 (j : Int)))]) (fun (j : Nat) => (DSt b ds)) (fun (j : Nat) => j ≤ ds.files.length ∧ ∀ i, i < j → ¬ ((pl ds).files.getD i default).1 = name) (fun (j : Nat) => ds.files.length - j) 0 ?_ ?_ ?_ ?_
  · exact ⟨Nat.zero_le _, fun i hi => by omega⟩
  · exact (Sub.cons rfl rfl (Sub.cons rfl rfl (Sub.cons rfl rfl Sub.nil)))
  · rfl
  ·
   intro j hinv
   obtain ⟨hj, hpre⟩ := hinv
   refine AW.seq ?_
   refine AW.rseq ?_
   refine Y1 (Yv.move rfl eV) ?_
   refine Y1 (Yv.move rfl eV) ?_
   refine Y1 (Yv.nilChk rfl eV) ?_
   refine Y1 (Yv.fieldBox rfl fo_82_0 eV) ?_
   refine Y1 (Yv.loadBox rfl ag_79 (i := 0) rfl (E rfl rfl) rfl) ?_
   refine Y1 (Yv.lenV rfl so_79 (E rfl rfl)) ?_
   refine Y1 (Yv.lss rfl eV eV) ?_
   refine nl ?_
   refine AW.cond rfl (fun h0t => ?_) (fun h0f => ?_)
   ·
    try replace h0t := of_decide_eq_true h0t
    refine AW.skip ?_
    refine AW.seq ?_
    refine AW.block ?_
    refine AW.rseq ?_
    refine Y1 (Yv.move rfl eV) ?_
    refine Y1 (Yv.nilChk rfl eV) ?_
    refine Y1 (Yv.fieldBox rfl fo_82_0 eV) ?_
    refine Y1 (Yv.loadBox rfl ag_79 (i := 0) rfl (E rfl rfl) rfl) ?_
    refine Y1 (Yv.move rfl eV) ?_
    refine Y1 (Yv.indexRow rfl ss_79 (i := 1) rfl (E rfl rfl) (E rfl rfl) (fun hg => ⟨rfl, by omega⟩)) ?_
    refine Y1 (Yv.fieldEp rfl fo_93_0 (E rfl rfl)) ?_
    refine Y1 (Yv.loadEp rfl ag_9 (i := 1) rfl (E rfl rfl) (fun hg => fnm_at (by omega))) ?_
    refine Y1 (Yv.move rfl eV) ?_
    refine Y1 (Yv.eqlL rfl (E rfl rfl) (E rfl rfl)) ?_
    refine nl ?_
    refine AW.cond rfl (fun h1t => ?_) (fun h1f => ?_)
    ·
     try replace h1t := of_decide_eq_true h1t
     have hnj : ((pl ds).files.getD j default).1 = name := by unfold pl; rw [nb_at (by omega)]; exact h1t
     refine AW.rseq ?_
     refine Y1 (Yv.move rfl eV) ?_
     refine Y1 (Yv.assign rfl eV) ?_
     refine nl ?_
     refine AW.ret (retI (.tmp rfl .nil) ?_)
     have hjl : j < (pl ds).files.length := by unfold pl; rw [List.length_map]; omega
     rw [findP_yes hjl hpre hnj]
     exact ⟨rfl, rfl⟩
    try replace h1f := of_decide_eq_false h1f
    have hnj : ¬ ((pl ds).files.getD j default).1 = name := by unfold pl; rw [nb_at (by omega)]; exact h1f
    refine AW.skip ?_
    refine AW.region ?_
    refine Y1 (Yv.move rfl eV) ?_
    refine Y1 (Yv.addN_i64 rfl (E rfl rfl) (E rfl rfl) (fun hg => by omega)) ?_
    refine Y1 (Yv.assign rfl eV) ?_
    refine nl ?_
    refine ⟨j + 1, ⟨by omega, fun i hi => ?_⟩, by omega, Sub.cons rfl rfl (Sub.cons rfl rfl (Sub.cons rfl (by simp) Sub.nil)), rfl⟩
    rcases Nat.lt_or_ge i j with h | h
    · exact hpre i h
    · rw [show i = j by omega]; exact hnj
   try replace h0f := of_decide_eq_false h0f
   refine AW.exit ?_
   refine AW.rseq ?_
   refine Y1 (Yv.assign rfl eV) ?_
   refine nl ?_
   refine AW.ret (retI (.tmp rfl .nil) ?_)
   rw [(findP_no (fun i hi => hpre i (by unfold pl at hi; rw [List.length_map] at hi; omega))).1]
   exact ⟨rfl, rfl⟩

theorem find34 (b : Nat) (ds : DS) (n : Nat) (hw : PB n (pl ds)) (hn : n ≤ 1099511627776) (name : List UInt8) :
    ACalls Try.prog 34 [wp b, sv name] (DSt b ds) (fun t S => t = .v (.int .i64 (findP name (pl ds).files)) ∧ S = DSt b ds) := find34F b ds n (nfl_of hw) hn name
set_option maxHeartbeats 400000 in
theorem kind56 (b : Nat) (ds : DS) (n : Nat) (hw : PB n (pl ds)) (hn : n ≤ 1099511627776) (fd : Int) :
    ACalls Try.prog 56 [wp b, .v (.int .i64 fd)] (DSt b ds) (fun t S => t = .v (.int .i64 (kindP fd (pl ds))) ∧ S = DSt b ds) := by
  obtain ⟨ho, htr, htx, hfl, hpl, hsi, hnf⟩ := hw
  have ho : ds.opn.length = 19 := ho
  have htr : ds.trace.length ≤ n := htr
  have hsi : ds.stdin.length ≤ n := hsi
  have hnf : ds.files.length ≤ n := by have h := hnf; unfold pl at h; rwa [List.length_map] at h
  refine ACalls.intro Try.func56 rfl Try.ntmps56 (Nat.le_of_ble_eq_true rfl) rfl fun X w0 => ?_
  refine AW.rseq ?_
  refine Y1 (Yv.assign rfl eV) ?_
  refine nl ?_
  refine AW.seq ?_
  refine AW.rseq ?_
  refine Y1 (Yv.move rfl eV) ?_
  refine Y1 (Yv.lss rfl eV eV) ?_
  refine Y1 (Yv.move rfl eV) ?_
  refine AWL.ygF rfl rfl rfl rfl (B rfl) (Yv.move rfl (E rfl rfl)) ?_
  refine AWL.ygF rfl rfl rfl rfl (B rfl) (Yv.geq rfl (Eg rfl rfl id) (E rfl rfl)) ?_
  refine Y1 (Yv.pickOr (t := .const (.bool true)) rfl (E rfl rfl) (Eg rfl rfl id)) ?_
  refine nl ?_
  refine AW.cond rfl (fun h0t => ?_) (fun h0f => ?_)
  ·
   try replace h0t := of_decide_eq_true h0t
   simp only [Bool.or_eq_true, Bool.and_eq_true, Bool.or_eq_false_iff, Bool.and_eq_false_iff, Bool.not_eq_true', Bool.not_eq_false', decide_eq_true_eq, decide_eq_false_iff_not, Decidable.not_not] at h0t
   refine AW.rseq ?_
   refine Y1 (Yv.assign rfl eV) ?_
   refine nl ?_
   refine AW.ret (retI (.tmp rfl .nil) ?_)
   unfold kindP; rw [if_pos (by omega)]; exact ⟨rfl, rfl⟩
  try replace h0f := of_decide_eq_false h0f
  simp only [Bool.or_eq_true, Bool.and_eq_true, Bool.or_eq_false_iff, Bool.and_eq_false_iff, Bool.not_eq_true', Bool.not_eq_false', decide_eq_true_eq, decide_eq_false_iff_not, Decidable.not_not] at h0f
  refine AW.skip ?_
  obtain ⟨j, rfl⟩ : ∃ j : Nat, fd = (j : Int) := ⟨fd.toNat, by omega⟩
  refine AW.rseq ?_
  refine Y1 (Yv.move rfl eV) ?_
  refine Y1 (Yv.nilChk rfl eV) ?_
  refine Y1 (Yv.fieldBox rfl fo_82_2 eV) ?_
  refine Y1 (Yv.loadBox rfl ag_80 (i := 0) rfl (E rfl rfl) rfl) ?_
  refine Y1 (Yv.move rfl eV) ?_
  refine Y1 (Yv.indexRow rfl ss_80 (i := 2) rfl (E rfl rfl) (E rfl rfl) (fun hg => ⟨rfl, by omega⟩)) ?_
  refine Y1 (Yv.fieldEp rfl fo_86_0 (E rfl rfl)) ?_
  refine Y1 (Yv.loadEp rfl ag_3 (i := 2) rfl (E rfl rfl) (fun hg => dkd_at (by omega))) ?_
  refine Y1 (Yv.assign rfl eV) ?_
  refine nl ?_
  refine AW.ret (retI (.tmp rfl .nil) ?_)
  unfold kindP; rw [if_neg (by omega)]; exact ⟨rfl, rfl⟩

set_option maxHeartbeats 400000 in
theorem SysClose41 (b : Nat) (ds : DS) (n : Nat) (hw : PB n (pl ds)) (hn : n ≤ 1099511627776) (fd : Int) :
    ACalls Try.prog 41 [wp b, .v (.int .i64 fd)] (DSt b ds) (fun t S => t = .v (.int .i64 (closeV fd (pl ds))) ∧ S = DSt b { ds with opn := (closeP fd (pl ds)).opn }) := by
  have hw1 := hw
  obtain ⟨ho, htr, htx, hfl, hpl, hsi, hnf⟩ := hw
  have ho : ds.opn.length = 19 := ho
  have htr : ds.trace.length ≤ n := htr
  have hsi : ds.stdin.length ≤ n := hsi
  have hnf : ds.files.length ≤ n := by have h := hnf; unfold pl at h; rwa [List.length_map] at h
  refine ACalls.intro Try.func41 rfl Try.ntmps41 (Nat.le_of_ble_eq_true rfl) rfl fun X w0 => ?_
  refine AW.rseq ?_
  refine Y1 (Yv.assign rfl eV) ?_
  refine nl ?_
  refine AW.seq ?_
  refine AW.rseq ?_
  refine Y1 (Yv.move rfl eV) ?_
  refine Y1 (Yv.move rfl eV) ?_
  refine AWL.callAll rfl rfl (B rfl) rfl ce_56 (E rfl rfl) (evsC (E rfl rfl) (evsC (E rfl rfl) evs0)) (kind56 b ds n hw1 hn fd) ?_
  rintro t7 S7 ⟨rfl, rfl⟩
  refine Y1 (Yv.eql rfl eV eV) ?_
  refine nl ?_
  refine AW.cond rfl (fun h0t => ?_) (fun h0f => ?_)
  ·
   try replace h0t := of_decide_eq_true h0t
   refine AW.rseq ?_
   refine Y1 (Yv.assign rfl eV) ?_
   refine nl ?_
   refine AW.ret (retI (.tmp rfl .nil) ?_)
   unfold closeV closeP; rw [if_pos h0t, if_pos h0t]; exact ⟨rfl, rfl⟩
  try replace h0f := of_decide_eq_false h0f
  refine AW.skip ?_
  have hin : 0 ≤ fd ∧ fd < 19 := by
    unfold kindP at h0f
    split at h0f
    · exact absurd rfl h0f
    · omega
  obtain ⟨j, rfl⟩ : ∃ j : Nat, fd = (j : Int) := ⟨fd.toNat, by omega⟩
  refine AW.rseq ?_
  refine Y1 (Yv.move rfl eV) ?_
  refine Y1 (Yv.nilChk rfl eV) ?_
  refine Y1 (Yv.fieldBox rfl fo_82_2 eV) ?_
  refine Y1 (Yv.loadBox rfl ag_80 (i := 0) rfl (E rfl rfl) rfl) ?_
  refine Y1 (Yv.move rfl eV) ?_
  refine Y1 (Yv.buildS rfl sh_86 evp0 (fun _ => rfl)) ?_
  refine Y1 (Yv.indexRow rfl ss_80 (i := 2) rfl (E rfl rfl) (E rfl rfl) (fun hg => ⟨rfl, by omega⟩)) ?_
  refine AWL.storeEp (i := 2) (m := 3) rfl rfl rfl ag_86 rfl (E rfl rfl) (E rfl rfl) rfl rfl (by decide) (by rw [len_desc]; omega) ?_
  refine nl ?_
  refine AW.rseq ?_
  refine Y1 (Yv.assign rfl eV) ?_
  refine nl ?_
  refine AW.ret (retI (.tmp rfl .nil) ?_)
  unfold closeV closeP; rw [if_neg h0f, if_neg h0f]
  refine ⟨rfl, ?_⟩
  have e := dset_all (l := ds.opn) (j := j) (by omega) ⟨0, [], 0⟩
  unfold DSt
  simp only [List.length_set]
  show _ = _ :: _ :: Ent.row _ _ _ _ _ ((ds.opn.set j ⟨0, [], 0⟩).flatMap descCells) :: _
  rw [← e]
  unfold dCells
  simp only [List.length_set]
  rfl

set_option maxHeartbeats 400000 in
theorem Line45 (b : Nat) (ds : DS) (n : Nat) (hw : PB n (pl ds)) (hn : n ≤ 1099511627776) :
    ACalls Try.prog 45 [wp b] (DSt b ds) (fun t S => t = sv (lineV (pl ds)) ∧ S = DSt b { ds with stdin := ds.stdin.drop (lineN ds.stdin) }) := by
  obtain ⟨ho, htr, htx, hfl, hpl, hsi, hnf⟩ := hw
  have ho : ds.opn.length = 19 := ho
  have htr : ds.trace.length ≤ n := htr
  have hsi : ds.stdin.length ≤ n := hsi
  have hnf : ds.files.length ≤ n := by have h := hnf; unfold pl at h; rwa [List.length_map] at h
  refine ACalls.intro Try.func45 rfl Try.ntmps45 (Nat.le_of_ble_eq_true rfl) rfl fun X w0 => ?_
  refine AW.rseq ?_
  refine Y1 (Yv.assign rfl eV) ?_
  refine nl ?_
  refine AW.rseq ?_
  refine Y1 (Yv.assign rfl eV) ?_
  refine nl ?_
  refine AW.seq ?_
  refine AW.block ?_
  refine AW.loop (fun (k : Nat) => [(0, true, wp b), (3, true, .v (.int .i64 (k : Int)))]) (fun (k : Nat) => (DSt b ds)) (fun (k : Nat) => k ≤ ds.stdin.length ∧ ∀ i, i < k → ¬ ds.stdin.getD i 0 = 10) (fun (k : Nat) => ds.stdin.length - k) 0 ?_ ?_ ?_ ?_
  · exact ⟨Nat.zero_le _, fun i hi => by omega⟩
  · exact (Sub.cons rfl rfl (Sub.cons rfl rfl Sub.nil))
  · rfl
  ·
   intro k hinv
   obtain ⟨hk, hpre⟩ := hinv
   refine AW.seq ?_
   refine AW.rseq ?_
   refine Y1 (Yv.move rfl eV) ?_
   refine Y1 (Yv.move rfl eV) ?_
   refine Y1 (Yv.nilChk rfl eV) ?_
   refine Y1 (Yv.fieldBox rfl fo_82_1 eV) ?_
   refine Y1 (Yv.loadBox rfl ag_9 (i := 0) rfl (E rfl rfl) rfl) ?_
   refine Y1 (Yv.lenL rfl st_9 (E rfl rfl)) ?_
   refine Y1 (Yv.lss rfl eV eV) ?_
   refine Y1 (Yv.move rfl eV) ?_
   refine AWL.ygT rfl rfl rfl rfl (B rfl) (Yv.move rfl (E rfl rfl)) ?_
   refine AWL.ygT rfl rfl rfl rfl (B rfl) (Yv.nilChk rfl (Eg rfl rfl id)) ?_
   refine AWL.ygT rfl rfl rfl rfl (B rfl) (Yv.fieldBox rfl fo_82_1 (Eg rfl rfl id)) ?_
   refine AWL.ygT rfl rfl rfl rfl (B rfl) (Yv.loadBox rfl ag_9 (i := 0) rfl (Eg rfl rfl id) rfl) ?_
   refine AWL.ygT rfl rfl rfl rfl (B rfl) (Yv.move rfl (E rfl rfl)) ?_
   refine AWL.ygT rfl rfl rfl rfl (B rfl) (Yv.indexL rfl st_9 (Eg rfl rfl id) (Eg rfl rfl id) (fun hg => ⟨rfl, by have hg := of_decide_eq_true hg; omega⟩)) ?_
   refine AWL.ygT rfl rfl rfl rfl (B rfl) (Yv.neq rfl (Eg rfl rfl id) (E rfl rfl)) ?_
   refine Y1 (Yv.pickAnd rfl (E rfl rfl) (Eg rfl rfl id)) ?_
   refine nl ?_
   refine AW.cond rfl (fun h0t => ?_) (fun h0f => ?_)
   ·
    try replace h0t := of_decide_eq_true h0t
    simp only [Bool.or_eq_true, Bool.and_eq_true, Bool.or_eq_false_iff, Bool.and_eq_false_iff, Bool.not_eq_true', Bool.not_eq_false', decide_eq_true_eq, decide_eq_false_iff_not, Decidable.not_not] at h0t
    refine AW.skip ?_
    refine AW.block ?_
    refine AW.region ?_
    refine Y1 (Yv.move rfl eV) ?_
    refine Y1 (Yv.addN_i64 rfl (E rfl rfl) (E rfl rfl) (fun hg => by omega)) ?_
    refine Y1 (Yv.assign rfl eV) ?_
    refine nl ?_
    refine ⟨k + 1, ⟨by omega, fun i hi => ?_⟩, by omega, Sub.cons rfl rfl (Sub.cons rfl (by simp) Sub.nil), rfl⟩
    rcases Nat.lt_or_ge i k with h | h
    · exact hpre i h
    · rw [show i = k by omega]; exact fun q => h0t.2 (u8ten.2 q)
   try replace h0f := of_decide_eq_false h0f
   simp only [Bool.or_eq_true, Bool.and_eq_true, Bool.or_eq_false_iff, Bool.and_eq_false_iff, Bool.not_eq_true', Bool.not_eq_false', decide_eq_true_eq, decide_eq_false_iff_not, Decidable.not_not] at h0f
   refine AW.exit ?_
   refine AW.seq ?_
   refine AW.rseq ?_
   refine Y1 (Yv.move rfl eV) ?_
   refine Y1 (Yv.move rfl eV) ?_
   refine Y1 (Yv.nilChk rfl eV) ?_
   refine Y1 (Yv.fieldBox rfl fo_82_1 eV) ?_
   refine Y1 (Yv.loadBox rfl ag_9 (i := 0) rfl (E rfl rfl) rfl) ?_
   refine Y1 (Yv.lenL rfl st_9 (E rfl rfl)) ?_
   refine Y1 (Yv.lss rfl eV eV) ?_
   refine nl ?_
   refine AW.cond rfl (fun h1t => ?_) (fun h1f => ?_)
   ·
    try replace h1t := of_decide_eq_true h1t
    have h10 : ds.stdin.getD k 0 = 10 := u8ten.1 (h0f.resolve_left (by omega))
    have hln := line_in (by omega) hpre h10
    refine AW.region ?_
    refine Y1 (Yv.move rfl eV) ?_
    refine Y1 (Yv.addN_i64 rfl (E rfl rfl) (E rfl rfl) (fun hg => by omega)) ?_
    refine Y1 (Yv.assign rfl eV) ?_
    refine nl ?_
    refine AW.rseq ?_
    refine Y1 (Yv.move rfl eV) ?_
    refine Y1 (Yv.nilChk rfl eV) ?_
    refine Y1 (Yv.fieldBox rfl fo_82_1 eV) ?_
    refine Y1 (Yv.loadBox rfl ag_9 (i := 0) rfl (E rfl rfl) rfl) ?_
    refine Y1 (Yv.move rfl eV) ?_
    refine Y1 (Yv.sliceL rfl st_9 (E rfl rfl) Bound.none_ (Bound.some_ (E rfl rfl) (fun hg => (Int.toNat_of_nonneg (by omega)).symm)) (fun hg => ⟨by omega, by omega⟩)) ?_
    refine Y1 (Yv.assign rfl eV) ?_
    refine nl ?_
    refine AW.rseq ?_
    refine Y1 (Yv.move rfl eV) ?_
    refine Y1 (Yv.move rfl eV) ?_
    refine Y1 (Yv.nilChk rfl eV) ?_
    refine Y1 (Yv.fieldBox rfl fo_82_1 eV) ?_
    refine Y1 (Yv.loadBox rfl ag_9 (i := 0) rfl (E rfl rfl) rfl) ?_
    refine Y1 (Yv.move rfl eV) ?_
    refine Y1 (Yv.sliceL rfl st_9 (E rfl rfl) (Bound.some_ (E rfl rfl) (fun hg => (Int.toNat_of_nonneg (by omega)).symm)) Bound.none_ (fun hg => ⟨by omega, by omega⟩)) ?_
    refine Y1 (Yv.nilChk rfl eV) ?_
    refine Y1 (Yv.fieldBox rfl fo_82_1 eV) ?_
    refine AWL.storeBox (i := 0) rfl rfl rfl ag_9 rfl (E rfl rfl) (E rfl rfl) rfl rfl (Nat.le_of_ble_eq_true rfl) ?_
    refine nl ?_
    refine AW.rseq ?_
    refine Y1 (Yv.move rfl eV) ?_
    refine Y1 (Yv.assign rfl eV) ?_
    refine nl ?_
    refine AW.ret (retI (.tmp rfl .nil) ?_)
    unfold lineV pl; rw [hln]; refine ⟨rfl, ?_⟩
    have e : (ds.stdin.drop (k + 1)).take (ds.stdin.length - (k + 1)) = ds.stdin.drop (k + 1) := List.take_of_length_le (by rw [List.length_drop]; omega)
    exact congrArg (fun z => DSt b { ds with stdin := z }) e
   try replace h1f := of_decide_eq_false h1f
   have hln := line_out (s := ds.stdin) (fun i hi => hpre i (by omega))
   refine AW.skip ?_
   refine AW.rseq ?_
   refine Y1 (Yv.move rfl eV) ?_
   refine Y1 (Yv.nilChk rfl eV) ?_
   refine Y1 (Yv.fieldBox rfl fo_82_1 eV) ?_
   refine Y1 (Yv.loadBox rfl ag_9 (i := 0) rfl (E rfl rfl) rfl) ?_
   refine Y1 (Yv.move rfl eV) ?_
   refine Y1 (Yv.sliceL rfl st_9 (E rfl rfl) Bound.none_ (Bound.some_ (E rfl rfl) (fun hg => rfl)) (fun hg => ⟨by omega, by omega⟩)) ?_
   refine Y1 (Yv.assign rfl eV) ?_
   refine nl ?_
   refine AW.rseq ?_
   refine Y1 (Yv.move rfl eV) ?_
   refine Y1 (Yv.move rfl eV) ?_
   refine Y1 (Yv.nilChk rfl eV) ?_
   refine Y1 (Yv.fieldBox rfl fo_82_1 eV) ?_
   refine Y1 (Yv.loadBox rfl ag_9 (i := 0) rfl (E rfl rfl) rfl) ?_
   refine Y1 (Yv.move rfl eV) ?_
   refine Y1 (Yv.sliceL rfl st_9 (E rfl rfl) (Bound.some_ (E rfl rfl) (fun hg => rfl)) Bound.none_ (fun hg => ⟨by omega, by omega⟩)) ?_
   refine Y1 (Yv.nilChk rfl eV) ?_
   refine Y1 (Yv.fieldBox rfl fo_82_1 eV) ?_
   refine AWL.storeBox (i := 0) rfl rfl rfl ag_9 rfl (E rfl rfl) (E rfl rfl) rfl rfl (Nat.le_of_ble_eq_true rfl) ?_
   refine nl ?_
   refine AW.rseq ?_
   refine Y1 (Yv.move rfl eV) ?_
   refine Y1 (Yv.assign rfl eV) ?_
   refine nl ?_
   refine AW.ret (retI (.tmp rfl .nil) ?_)
   unfold lineV pl; rw [hln, show ds.stdin.length = k by omega]; refine ⟨rfl, ?_⟩
   have e : (ds.stdin.drop k).take (k - k) = ds.stdin.drop k := by rw [Nat.sub_self, List.take_zero, List.drop_of_length_le (by omega)]
   exact congrArg (fun z => DSt b { ds with stdin := z }) e

end Go.Proofs.Ytmiggpnkicdijaa

namespace Go.Proofs.Ytmiggpnkicdijaa
open Go Go.RowKit
set_option linter.unusedSimpArgs false
set_option linter.unusedVariables false
theorem dst_more {b : Nat} {ds : DS} {k : Int} {name text : List UInt8} (h0 : text ≠ []) (h : 0 < ds.trace.length ∧ (lastE ds.trace).kind = k ∧ (lastE ds.trace).name = name) :
    DSt b { ds with trace := sayF k name text ds.trace } = .box b 82 (dCells ds) :: .row ds.lA ds.files.length ds.lc 93 2 (ds.files.flatMap fileCells) :: .row ds.dA ds.opn.length ds.dc 86 3 (ds.opn.flatMap descCells) :: .row ds.tA ds.trace.length ds.tc 36 3 ((ds.trace.flatMap evCells).set ((ds.trace.length - 1) * 3 + 2) (sv ((lastE ds.trace).text ++ text))) :: ds.files.map fileRow := by
  rw [sayF_more h0 h]
  simp only [DSt, dCells, List.length_set]
  rw [set_ev (by omega)]
  rfl
theorem dst_new {b : Nat} {ds : DS} {k : Int} {name text : List UInt8} {A : Option Addr} {c : Nat} (h0 : text ≠ []) (h : ¬ (0 < ds.trace.length ∧ (lastE ds.trace).kind = k ∧ (lastE ds.trace).name = name)) :
    DSt b { ds with trace := sayF k name text ds.trace, tA := A, tc := c } = .box b 82 [.v (.slice ds.lA ds.files.length ds.lc), sv ds.stdin, .v (.slice ds.dA ds.opn.length ds.dc), .v (.slice A (ds.trace.length + 1) c)] :: .row ds.lA ds.files.length ds.lc 93 2 (ds.files.flatMap fileCells) :: .row ds.dA ds.opn.length ds.dc 86 3 (ds.opn.flatMap descCells) ::
      .row A (ds.trace.length + 1) c 36 3 (ds.trace.flatMap evCells ++ [.v (.int .i64 k), sv name, sv text]) :: ds.files.map fileRow := by
  rw [sayF_new h0 h]
  simp only [DSt, dCells, List.length_append, List.length_cons, List.length_nil, List.flatMap_append, List.flatMap_cons, List.flatMap_nil, List.append_nil, Nat.zero_add]
  rfl
/-- Files on their way: the new one at i. -/
def layL (f : FileR) (l : List FileR) (i : Nat) : List FileR := l.take i ++ f :: l.drop i
theorem layL_len {f : FileR} {l : List FileR} {i : Nat} (h : i ≤ l.length) : (layL f l i).length = l.length + 1 := by
  unfold layL
  rw [List.length_append, List.length_take, List.length_cons, List.length_drop]
  omega
theorem layL_end (f : FileR) (l : List FileR) : layL f l l.length = l ++ [f] := by
  unfold layL
  rw [List.take_length, List.drop_length]
theorem layL_at {f : FileR} {l : List FileR} {i : Nat} (h : i ≤ l.length) : (layL f l i).getD i default = f := by
  have ht : (l.take i).length = i := by rw [List.length_take]; omega
  unfold layL
  rw [List.getD_eq_getElem?_getD, List.getElem?_append_right (by omega), ht, Nat.sub_self]
  rfl
theorem layL_be {f : FileR} {l : List FileR} {i j : Nat} (h : i ≤ l.length) (hj : j < i) : (layL f l i).getD j default = l.getD j default := by
  have ht : (l.take i).length = i := by rw [List.length_take]; omega
  unfold layL
  rw [List.getD_eq_getElem?_getD, List.getD_eq_getElem?_getD, List.getElem?_append_left (by omega), List.getElem?_take, if_pos hj]
theorem layL_swap {f : FileR} {l : List FileR} {i : Nat} (h : i ≤ l.length) (h0 : 0 < i) : ((layL f l i).set i (l.getD (i - 1) default)).set (i - 1) f = layL f l (i - 1) := by
  apply List.ext_getElem?
  intro k
  have hl := layL_len (f := f) h
  have hl' := layL_len (f := f) (l := l) (i := i - 1) (by omega)
  have ht : (l.take i).length = i := by rw [List.length_take]; omega
  have ht' : (l.take (i - 1)).length = i - 1 := by rw [List.length_take]; omega
  rw [List.getElem?_set, List.getElem?_set, List.length_set, hl]
  unfold layL
  by_cases h1 : i - 1 = k
  · rw [if_pos h1, if_pos (by omega), List.getElem?_append_right (by omega), ht', show k - (i - 1) = 0 by omega]
    rfl
  · rw [if_neg h1]
    by_cases h2 : i = k
    · rw [if_pos h2, if_pos (by omega), List.getElem?_append_right (by omega), ht', show k - (i - 1) = 0 + 1 by omega, List.getElem?_cons_succ, List.getElem?_drop, getD_eq' (by omega), show i - 1 + 0 = i - 1 by omega, List.getElem?_eq_getElem (by omega)]
    · rw [if_neg h2]
      rcases Nat.lt_or_ge k (i - 1) with h3 | h3
      · rw [List.getElem?_append_left (by omega), List.getElem?_append_left (by omega), List.getElem?_take, List.getElem?_take, if_pos (by omega), if_pos h3]
      · rw [List.getElem?_append_right (by omega), List.getElem?_append_right (by omega), ht, ht', show k - i = (k - i - 1) + 1 by omega, show k - (i - 1) = (k - i) + 1 by omega, List.getElem?_cons_succ, List.getElem?_cons_succ, List.getElem?_drop, List.getElem?_drop]
        congr 1
        omega
theorem layL_perm (f : FileR) (l : List FileR) (i : Nat) : (l ++ [f]).Perm (layL f l i) := by
  have e : (layL f l i).Perm (l.take i ++ (l.drop i ++ [f])) := List.Perm.append_left _ (List.perm_append_singleton f _).symm
  rw [← List.append_assoc, List.take_append_drop] at e
  exact e.symm
/-- The world's entries while a new file moves: its own row stands last. -/
def DSl (b : Nat) (ds : DS) (f : FileR) (i : Nat) (A : Option Addr) (c : Nat) : St :=
  .box b 82 [.v (.slice A (ds.files.length + 1) c), sv ds.stdin, .v (.slice ds.dA ds.opn.length ds.dc), .v (.slice ds.tA ds.trace.length ds.tc)] :: .row A (ds.files.length + 1) c 93 2 ((layL f ds.files i).flatMap fileCells) :: .row ds.dA ds.opn.length ds.dc 86 3 (ds.opn.flatMap descCells) :: .row ds.tA ds.trace.length ds.tc 36 3 (ds.trace.flatMap evCells) :: (ds.files ++ [f]).map fileRow
theorem dsl_perm {b : Nat} {ds : DS} {f : FileR} {i : Nat} {A : Option Addr} {c : Nat} (h : i ≤ ds.files.length) : (DSt b { ds with files := layL f ds.files i, lA := A, lc := c }).Perm (DSl b ds f i A c) := by
  unfold DSt DSl dCells
  simp only [layL_len h]
  exact (((((layL_perm f ds.files i).symm.map fileRow).cons _).cons _).cons _).cons _
theorem dsl_new {b : Nat} {ds : DS} {f : FileR} {A : Option Addr} {c : Nat} :
    DSl b ds f ds.files.length A c = .box b 82 [.v (.slice A (ds.files.length + 1) c), sv ds.stdin, .v (.slice ds.dA ds.opn.length ds.dc), .v (.slice ds.tA ds.trace.length ds.tc)] :: .row A (ds.files.length + 1) c 93 2 (ds.files.flatMap fileCells ++ [sv f.name, .v (.slice f.A f.bytes.length f.c)]) :: .row ds.dA ds.opn.length ds.dc 86 3 (ds.opn.flatMap descCells) :: .row ds.tA ds.trace.length ds.tc 36 3 (ds.trace.flatMap evCells) :: (ds.files.map fileRow ++ [fileRow f]) := by
  unfold DSl
  rw [layL_end, List.flatMap_append, List.map_append]
  rfl
theorem lay_nm {f : FileR} {l : List FileR} {i : Nat} (h : i ≤ l.length) : ((layL f l i).flatMap fileCells)[i * 2 + 0]? = some (sv f.name) := by
  rw [fnm_at (by rw [layL_len h]; omega), layL_at h]
theorem lay_nb {f : FileR} {l : List FileR} {i : Nat} (h : i ≤ l.length) (h0 : 0 < i) : ((layL f l i).flatMap fileCells)[(i - 1) * 2 + 0]? = some (sv (l.getD (i - 1) default).name) := by
  rw [fnm_at (by rw [layL_len h]; omega), layL_be h (by omega)]
theorem cells_at {l : List FileR} {j : Nat} (h : j < l.length) : ((l.flatMap fileCells).drop (j * 2)).take 2 = fileCells (l.getD j default) := by
  rw [drop_flat fck, List.drop_eq_getElem_cons h, List.flatMap_cons, getD_eq' h]
  rw [List.take_append_of_le_length (by rw [fck]; exact Nat.le_refl _)]
  exact List.take_of_length_le (by rw [fck]; exact Nat.le_refl _)
theorem lay_swap {f : FileR} {l : List FileR} {i : Nat} (h : i ≤ l.length) (h0 : 0 < i) :
    (((layL f l i).flatMap fileCells).take (i * 2) ++ fileCells (l.getD (i - 1) default) ++ ((layL f l i).flatMap fileCells).drop (i * 2 + 2)).take ((i - 1) * 2) ++ fileCells f ++ (((layL f l i).flatMap fileCells).take (i * 2) ++ fileCells (l.getD (i - 1) default) ++ ((layL f l i).flatMap fileCells).drop (i * 2 + 2)).drop ((i - 1) * 2 + 2) = (layL f l (i - 1)).flatMap fileCells := by
  have hl := layL_len (f := f) h
  rw [fset_all (by omega), fset_all (by rw [List.length_set]; omega), layL_swap h h0]
theorem lay_done {ds : DS} {f : FileR} {i : Nat} (h : i ≤ ds.files.length) (ha : ∀ y ∈ ds.files.drop i, bl f.name y.name = true) (hb : i = 0 ∨ bl f.name (ds.files.getD (i - 1) default).name = false) : Laid (nb f) (ds.files.map nb) ((layL f ds.files i).map nb) := by
  refine ⟨i, by rw [List.length_map]; exact h, ?_, fun y hy => ?_, ?_⟩
  · unfold layL
    rw [List.map_append, List.map_take, List.map_cons, List.map_drop]
  · rw [← List.map_drop] at hy
    obtain ⟨z, hz, rfl⟩ := List.mem_map.1 hy
    exact ha z hz
  · rcases hb with hb | hb
    · exact .inl hb
    · rcases Nat.eq_zero_or_pos i with h0 | h0
      · exact .inl h0
      · right
        rw [nb_at (by omega)]
        exact hb
end Go.Proofs.Ytmiggpnkicdijaa

namespace Go.Proofs.Ytmiggpnkicdijaa
open Go Go.RowKit
set_option linter.unusedVariables false
set_option linter.unnecessarySimpa false
set_option linter.unusedSimpArgs false

set_option maxHeartbeats 1000000 in
theorem say57 (b : Nat) (ds : DS) (n : Nat) (hw : PB n (pl ds)) (hn : n ≤ 1099511627776) (k : Int) (name text : List UInt8) (ht : text.length ≤ 1099511627776) :
    ACalls Try.prog 57 [wp b, .v (.int .i64 k), sv name, sv text] (DSt b ds) (fun t S => t = .tup [] ∧ ∃ A c, S = DSt b { ds with trace := sayF k name text ds.trace, tA := A, tc := c }) := by
  obtain ⟨ho, htr, htx, hfl, hpl, hsi, hnf⟩ := hw
  have ho : ds.opn.length = 19 := ho
  have htr : ds.trace.length ≤ n := htr
  have hsi : ds.stdin.length ≤ n := hsi
  have hnf : ds.files.length ≤ n := by have h := hnf; unfold pl at h; rwa [List.length_map] at h
  have htxt : ∀ e ∈ ds.trace, e.text.length ≤ n := htx
  refine ACalls.intro Try.func57 rfl Try.ntmps57 (Nat.le_of_ble_eq_true rfl) rfl fun X w0 => ?_
  refine AW.rseq ?_
  refine Y1 (Yv.move rfl eV) ?_
  refine Y1 (Yv.nilChk rfl eV) ?_
  refine Y1 (Yv.fieldBox rfl fo_82_3 eV) ?_
  refine Y1 (Yv.loadBox rfl ag_33 (i := 0) rfl (E rfl rfl) rfl) ?_
  refine Y1 (Yv.lenV rfl so_33 (E rfl rfl)) ?_
  refine Y1 (Yv.assign rfl eV) ?_
  refine nl ?_
  refine AW.seq ?_
  refine AW.rseq ?_
  refine Y1 (Yv.move rfl eV) ?_
  refine Y1 (Yv.eqlL rfl (E rfl rfl) (E rfl rfl)) ?_
  refine nl ?_
  refine AW.cond rfl (fun h0t => ?_) (fun h0f => ?_)
  ·
   try replace h0t := of_decide_eq_true h0t
   refine AW.ret (retI .nil ?_)
   exact ⟨rfl, ds.tA, ds.tc, by rw [h0t, sayF_nil]⟩
  try replace h0f := of_decide_eq_false h0f
  refine AW.skip ?_
  refine AW.seq ?_
  refine AW.rseq ?_
  refine Y1 (Yv.move rfl eV) ?_
  refine Y1 (Yv.gtr rfl eV eV) ?_
  refine Y1 (Yv.move rfl eV) ?_
  refine AWL.ygT rfl rfl rfl rfl (B rfl) (Yv.move rfl (E rfl rfl)) ?_
  refine AWL.ygT rfl rfl rfl rfl (B rfl) (Yv.nilChk rfl (Eg rfl rfl id)) ?_
  refine AWL.ygT rfl rfl rfl rfl (B rfl) (Yv.fieldBox rfl fo_82_3 (Eg rfl rfl id)) ?_
  refine AWL.ygT rfl rfl rfl rfl (B rfl) (Yv.loadBox rfl ag_33 (i := 0) rfl (Eg rfl rfl id) rfl) ?_
  refine AWL.ygT rfl rfl rfl rfl (B rfl) (Yv.move rfl (E rfl rfl)) ?_
  refine AWL.ygT rfl rfl rfl rfl (B rfl) (Yv.subN_i64 rfl (Eg rfl rfl id) (E rfl rfl) (fun hg => by first | omega | (simp only [Bool.and_eq_true, Bool.or_eq_false_iff, Bool.not_eq_true', Bool.not_eq_false', decide_eq_true_eq, decide_eq_false_iff_not] at hg; omega))) ?_
  refine AWL.ygT rfl rfl rfl rfl (B rfl) (Yv.indexRow (j := ds.trace.length - 1) rfl ss_33 (i := 3) rfl (Eg rfl rfl id) (Eg rfl rfl id) (fun hg => by first | exact ⟨by omega, by omega⟩ | (simp only [Bool.or_eq_true, Bool.and_eq_true, Bool.or_eq_false_iff, Bool.and_eq_false_iff, Bool.not_eq_true', Bool.not_eq_false', decide_eq_true_eq, decide_eq_false_iff_not, Decidable.not_not] at hg; exact ⟨by omega, by omega⟩))) ?_
  refine AWL.ygT rfl rfl rfl rfl (B rfl) (Yv.fieldEp rfl fo_36_0 (Eg rfl rfl id)) ?_
  refine AWL.ygT rfl rfl rfl rfl (B rfl) (Yv.loadEp rfl ag_3 (i := 3) rfl (Eg rfl rfl id) (fun hg => evk_at (by first | omega | (simp only [Bool.or_eq_true, Bool.and_eq_true, Bool.or_eq_false_iff, Bool.and_eq_false_iff, Bool.not_eq_true', Bool.not_eq_false', decide_eq_true_eq, decide_eq_false_iff_not, Decidable.not_not] at hg; omega)))) ?_
  refine AWL.ygT rfl rfl rfl rfl (B rfl) (Yv.move rfl (E rfl rfl)) ?_
  refine AWL.ygT rfl rfl rfl rfl (B rfl) (Yv.eql rfl (Eg rfl rfl id) (Eg rfl rfl id)) ?_
  refine Y1 (Yv.pickAnd rfl (E rfl rfl) (Eg rfl rfl id)) ?_
  refine Y1 (Yv.move rfl eV) ?_
  refine AWL.ygT rfl rfl rfl rfl (B rfl) (Yv.move rfl (E rfl rfl)) ?_
  refine AWL.ygT rfl rfl rfl rfl (B rfl) (Yv.nilChk rfl (Eg rfl rfl id)) ?_
  refine AWL.ygT rfl rfl rfl rfl (B rfl) (Yv.fieldBox rfl fo_82_3 (Eg rfl rfl id)) ?_
  refine AWL.ygT rfl rfl rfl rfl (B rfl) (Yv.loadBox rfl ag_33 (i := 0) rfl (Eg rfl rfl id) rfl) ?_
  refine AWL.ygT rfl rfl rfl rfl (B rfl) (Yv.move rfl (E rfl rfl)) ?_
  refine AWL.ygT rfl rfl rfl rfl (B rfl) (Yv.subN_i64 rfl (Eg rfl rfl id) (E rfl rfl) (fun hg => by first | omega | (simp only [Bool.and_eq_true, Bool.or_eq_false_iff, Bool.not_eq_true', Bool.not_eq_false', decide_eq_true_eq, decide_eq_false_iff_not] at hg; omega))) ?_
  refine AWL.ygT rfl rfl rfl rfl (B rfl) (Yv.indexRow (j := ds.trace.length - 1) rfl ss_33 (i := 3) rfl (Eg rfl rfl id) (Eg rfl rfl id) (fun hg => by first | exact ⟨by omega, by omega⟩ | (simp only [Bool.or_eq_true, Bool.and_eq_true, Bool.or_eq_false_iff, Bool.and_eq_false_iff, Bool.not_eq_true', Bool.not_eq_false', decide_eq_true_eq, decide_eq_false_iff_not, Decidable.not_not] at hg; exact ⟨by omega, by omega⟩))) ?_
  refine AWL.ygT rfl rfl rfl rfl (B rfl) (Yv.fieldEp rfl fo_36_1 (Eg rfl rfl id)) ?_
  refine AWL.ygT rfl rfl rfl rfl (B rfl) (Yv.loadEp rfl ag_9 (i := 3) rfl (Eg rfl rfl id) (fun hg => evn_at (by first | omega | (simp only [Bool.or_eq_true, Bool.and_eq_true, Bool.or_eq_false_iff, Bool.and_eq_false_iff, Bool.not_eq_true', Bool.not_eq_false', decide_eq_true_eq, decide_eq_false_iff_not, Decidable.not_not] at hg; omega)))) ?_
  refine AWL.ygT rfl rfl rfl rfl (B rfl) (Yv.move rfl (E rfl rfl)) ?_
  refine AWL.ygT rfl rfl rfl rfl (B rfl) (Yv.eqlL rfl (Eg rfl rfl id) (Eg rfl rfl id)) ?_
  refine Y1 (Yv.pickAnd rfl (E rfl rfl) (Eg rfl rfl id)) ?_
  refine nl ?_
  refine AW.cond rfl (fun h1t => ?_) (fun h1f => ?_)
  ·
   try replace h1t := of_decide_eq_true h1t
   simp only [Bool.or_eq_true, Bool.and_eq_true, Bool.or_eq_false_iff, Bool.and_eq_false_iff, Bool.not_eq_true', Bool.not_eq_false', decide_eq_true_eq, decide_eq_false_iff_not, Decidable.not_not] at h1t
   obtain ⟨⟨g1, g2⟩, g3⟩ := h1t
   have hlast := htxt _ (last_mem (l := ds.trace) (by omega))
   unfold lastE at hlast
   refine AW.rseqP rfl ?_
   refine AWP.phase [true, true, true, true, true, true, true, true, true, true, true, true, true, true, true, true, true, true, true] 1 rfl (by kernel_rfl) (by kernel_rfl) ?_
   refine AWQ.y rfl rfl (B rfl) (Yv.move rfl (E rfl rfl)) ?_
   refine AWQ.y rfl rfl (B rfl) (Yv.nilChk rfl (E rfl rfl)) ?_
   refine AWQ.y rfl rfl (B rfl) (Yv.fieldBox rfl fo_82_3 (E rfl rfl)) ?_
   refine AWQ.y rfl rfl (B rfl) (Yv.loadBox rfl ag_33 (i := 0) rfl (E rfl rfl) rfl) ?_
   refine AWQ.y rfl rfl (B rfl) (Yv.move rfl (E rfl rfl)) ?_
   refine AWQ.y rfl rfl (B rfl) (Yv.subN_i64 rfl (E rfl rfl) (E rfl rfl) (fun hg => by omega)) ?_
   refine AWQ.y rfl rfl (B rfl) (Yv.move rfl (E rfl rfl)) ?_
   refine AWQ.y rfl rfl (B rfl) (Yv.nilChk rfl (E rfl rfl)) ?_
   refine AWQ.y rfl rfl (B rfl) (Yv.fieldBox rfl fo_82_3 (E rfl rfl)) ?_
   refine AWQ.y rfl rfl (B rfl) (Yv.loadBox rfl ag_33 (i := 0) rfl (E rfl rfl) rfl) ?_
   refine AWQ.y rfl rfl (B rfl) (Yv.move rfl (E rfl rfl)) ?_
   refine AWQ.y rfl rfl (B rfl) (Yv.subN_i64 rfl (E rfl rfl) (E rfl rfl) (fun hg => by omega)) ?_
   refine AWQ.y rfl rfl (B rfl) (Yv.indexRow (j := ds.trace.length - 1) rfl ss_33 (i := 3) rfl (E rfl rfl) (E rfl rfl) (fun hg => by first | exact ⟨by omega, by omega⟩ | (simp only [Bool.or_eq_true, Bool.and_eq_true, Bool.or_eq_false_iff, Bool.and_eq_false_iff, Bool.not_eq_true', Bool.not_eq_false', decide_eq_true_eq, decide_eq_false_iff_not, Decidable.not_not] at hg; exact ⟨by omega, by omega⟩))) ?_
   refine AWQ.y rfl rfl (B rfl) (Yv.fieldEp rfl fo_36_2 (E rfl rfl)) ?_
   refine AWQ.y rfl rfl (B rfl) (Yv.loadEp rfl ag_9 (i := 3) rfl (E rfl rfl) (fun hg => evt_at (by first | omega | (simp only [Bool.or_eq_true, Bool.and_eq_true, Bool.or_eq_false_iff, Bool.and_eq_false_iff, Bool.not_eq_true', Bool.not_eq_false', decide_eq_true_eq, decide_eq_false_iff_not, Decidable.not_not] at hg; omega)))) ?_
   refine AWQ.y rfl rfl (B rfl) (Yv.move rfl (E rfl rfl)) ?_
   refine AWQ.y rfl rfl (B rfl) (Yv.addL rfl (E rfl rfl) (E rfl rfl) (fun hg => by first | omega | (simp only [List.length_append, List.length_cons, List.length_nil]; omega))) ?_
   refine AWQ.y rfl rfl (B rfl) (Yv.indexRow (j := ds.trace.length - 1) rfl ss_33 (i := 3) rfl (E rfl rfl) (E rfl rfl) (fun hg => by first | exact ⟨by omega, by omega⟩ | (simp only [Bool.or_eq_true, Bool.and_eq_true, Bool.or_eq_false_iff, Bool.and_eq_false_iff, Bool.not_eq_true', Bool.not_eq_false', decide_eq_true_eq, decide_eq_false_iff_not, Decidable.not_not] at hg; exact ⟨by omega, by omega⟩))) ?_
   refine AWQ.y rfl rfl (B rfl) (Yv.fieldEp rfl fo_36_2 (E rfl rfl)) ?_
   refine AWQ.nil ?_
   refine AWP.one (i := 19) (by kernel_rfl) rfl ?_
   refine AWL.storeEp1 (i := 3) rfl rfl rfl ag_9 rfl (E rfl rfl) (E rfl rfl) rfl rfl (by rw [len_ev]; omega) ?_
   refine nl ?_
   refine AWP.done (by kernel_rfl) ?_
   refine AW.ret (retI .nil ?_)
   exact ⟨rfl, ds.tA, ds.tc, (dst_more h0f ⟨by omega, g2, g3⟩).symm⟩
  try replace h1f := of_decide_eq_false h1f
  have hno : ¬ (0 < ds.trace.length ∧ (lastE ds.trace).kind = k ∧ (lastE ds.trace).name = name) := fun q => by
    obtain ⟨q1, q2, q3⟩ := q
    unfold lastE at q2 q3
    rw [decide_eq_true (show (0 : Int) < ds.trace.length by omega), decide_eq_true q2, decide_eq_true q3] at h1f
    cases h1f
  refine AW.skip ?_
  refine AW.region ?_
  refine Y1 (Yv.move rfl eV) ?_
  refine Y1 (Yv.move rfl eV) ?_
  refine Y1 (Yv.nilChk rfl eV) ?_
  refine Y1 (Yv.fieldBox rfl fo_82_3 eV) ?_
  refine Y1 (Yv.loadBox rfl ag_33 (i := 0) rfl (E rfl rfl) rfl) ?_
  refine Y1 (Yv.move rfl eV) ?_
  refine Y1 (Yv.move rfl eV) ?_
  refine Y1 (Yv.move rfl eV) ?_
  refine Y1 (Yv.buildS rfl sh_36 (evpC (E rfl rfl) (evpC (E rfl rfl) (evpC (E rfl rfl) evp0))) (fun _ => rfl)) ?_
  refine AWL.buildSliceE rfl rfl (B rfl) rfl el_33 (B rfl) rfl (evsC (E rfl rfl) evs0) (Nat.le_of_ble_eq_true rfl) rfl rfl ?_
  refine AWL.appendRow (i := 3) rfl rfl (B rfl) rfl el_33 (B rfl) rfl (E rfl rfl) (SrcT.sl so_33 (B rfl) (E rfl rfl) (m := 1) rfl) (by unfold maxLen; omega) (by omega) (fun A73 c73 => ?_)
  refine Y1 (Yv.nilChk rfl eV) ?_
  refine Y1 (Yv.fieldBox rfl fo_82_3 eV) ?_
  refine AWL.storeBox (i := 0) rfl rfl rfl ag_33 rfl (E rfl rfl) (E rfl rfl) rfl rfl (Nat.le_of_ble_eq_true rfl) ?_
  refine nl ?_
  refine retN .nil ?_
  exact ⟨rfl, A73, c73, (dst_new h0f hno).symm⟩

set_option maxHeartbeats 2000000 in
theorem lay35F (b : Nat) (ds : DS) (n : Nat) (hnf : ds.files.length ≤ n) (hn : n ≤ 1099511627776) (f : FileR) (hfb : f.bytes.length ≤ 1099511627776) :
    ACalls Try.prog 35 [wp b, sv f.name, .v (.slice f.A f.bytes.length f.c)] (DSt b ds ++ [fileRow f]) (fun t S => t = .tup [] ∧ ∃ fs A c, Laid (nb f) (ds.files.map nb) (fs.map nb) ∧ S = DSt b { ds with files := fs, lA := A, lc := c }) := by
  refine ACalls.intro Try.func35 rfl Try.ntmps35 (Nat.le_of_ble_eq_true rfl) rfl fun X w0 => ?_
  refine AW.rseq ?_
  refine Y1 (Yv.move rfl eV) ?_
  refine Y1 (Yv.move rfl eV) ?_
  refine Y1 (Yv.nilChk rfl eV) ?_
  refine Y1 (Yv.fieldBox rfl fo_82_0 eV) ?_
  refine Y1 (Yv.loadBox rfl ag_79 (i := 0) rfl (E rfl rfl) rfl) ?_
  refine Y1 (Yv.move rfl eV) ?_
  refine Y1 (Yv.move rfl eV) ?_
  refine Y1 (Yv.buildS rfl sh_93 (evpC (E rfl rfl) (evpC (E rfl rfl) evp0)) (fun _ => rfl)) ?_
  refine AWL.buildSliceE rfl rfl (B rfl) rfl el_79 (B rfl) rfl (evsC (E rfl rfl) evs0) (Nat.le_of_ble_eq_true rfl) rfl rfl ?_
  refine AWL.appendRow (i := 1) rfl rfl (B rfl) rfl el_79 (B rfl) rfl (E rfl rfl) (SrcT.sl so_79 (B rfl) (E rfl rfl) (m := 1) rfl) (by unfold maxLen; omega) (by omega) (fun A16 c16 => ?_)
  refine Y1 (Yv.nilChk rfl eV) ?_
  refine Y1 (Yv.fieldBox rfl fo_82_0 eV) ?_
  refine AWL.storeBox (i := 0) rfl rfl rfl ag_79 rfl (E rfl rfl) (E rfl rfl) rfl rfl (Nat.le_of_ble_eq_true rfl) ?_
  refine nl ?_
  refine AW.eqS (S' := DSl b ds f ds.files.length A16 c16) (dsl_new (ds := ds) (f := f) (b := b)).symm ?_
  refine AW.rseq ?_
  refine Y1 (Yv.move rfl eV) ?_
  refine Y1 (Yv.nilChk rfl eV) ?_
  refine Y1 (Yv.fieldBox rfl fo_82_0 eV) ?_
  refine Y1 (Yv.loadBox rfl ag_79 (i := 0) rfl (E rfl rfl) rfl) ?_
  refine Y1 (Yv.lenV rfl so_79 (E rfl rfl)) ?_
  refine Y1 (Yv.subN_i64 rfl (E rfl rfl) (E rfl rfl) (fun hg => by omega)) ?_
  refine Y1 (Yv.assign rfl eV) ?_
  refine nl ?_
  refine AW.block ?_
  refine AW.loop (fun (i : Nat) => [(0, true, wp b), (6, true, .v (.int .i64 (i : Int)))]) (fun (i : Nat) => (DSl b ds f i A16 c16)) (fun (i : Nat) => i ≤ ds.files.length ∧ ∀ y ∈ ds.files.drop i, bl f.name y.name = true) (fun (i : Nat) => i) ds.files.length ?_ ?_ ?_ ?_
  · exact ⟨Nat.le_refl _, fun y hy => by rw [List.drop_length] at hy; cases hy⟩
  · exact (Sub.cons rfl rfl (Sub.cons rfl (by simp) Sub.nil))
  · rfl
  ·
   intro i hinv
   obtain ⟨hi, hall⟩ := hinv
   refine AW.seq ?_
   refine AW.rseqQ rfl (by kernel_rfl) ?_
   refine AWQ.y rfl rfl (B rfl) (Yv.move rfl (E rfl rfl)) ?_
   refine AWQ.y rfl rfl (B rfl) (Yv.gtr rfl (E rfl rfl) (E rfl rfl)) ?_
   refine AWQ.y rfl rfl (B rfl) (Yv.move rfl (E rfl rfl)) ?_
   refine AWQ.ygT rfl rfl rfl rfl (B rfl) (Yv.move rfl (E rfl rfl)) ?_
   refine AWQ.ygT rfl rfl rfl rfl (B rfl) (Yv.nilChk rfl (Eg rfl rfl id)) ?_
   refine AWQ.ygT rfl rfl rfl rfl (B rfl) (Yv.fieldBox rfl fo_82_0 (Eg rfl rfl id)) ?_
   refine AWQ.ygT rfl rfl rfl rfl (B rfl) (Yv.loadBox rfl ag_79 (i := 0) rfl (Eg rfl rfl id) rfl) ?_
   refine AWQ.ygT rfl rfl rfl rfl (B rfl) (Yv.move rfl (E rfl rfl)) ?_
   refine AWQ.ygT rfl rfl rfl rfl (B rfl) (Yv.indexRow (j := i) rfl ss_79 (i := 1) rfl (Eg rfl rfl id) (Eg rfl rfl id) (fun hg => by first | exact ⟨by omega, by omega⟩ | (simp only [Bool.or_eq_true, Bool.and_eq_true, Bool.or_eq_false_iff, Bool.and_eq_false_iff, Bool.not_eq_true', Bool.not_eq_false', decide_eq_true_eq, decide_eq_false_iff_not, Decidable.not_not] at hg; exact ⟨by omega, by omega⟩))) ?_
   refine AWQ.ygT rfl rfl rfl rfl (B rfl) (Yv.fieldEp rfl fo_93_0 (Eg rfl rfl id)) ?_
   refine AWQ.ygT rfl rfl rfl rfl (B rfl) (Yv.loadEp rfl ag_9 (i := 1) rfl (Eg rfl rfl id) (fun hg => lay_nm (by first | omega | (simp only [Bool.or_eq_true, Bool.and_eq_true, Bool.or_eq_false_iff, Bool.and_eq_false_iff, Bool.not_eq_true', Bool.not_eq_false', decide_eq_true_eq, decide_eq_false_iff_not, Decidable.not_not] at hg; omega)))) ?_
   refine AWQ.ygT rfl rfl rfl rfl (B rfl) (Yv.move rfl (E rfl rfl)) ?_
   refine AWQ.ygT rfl rfl rfl rfl (B rfl) (Yv.nilChk rfl (Eg rfl rfl id)) ?_
   refine AWQ.ygT rfl rfl rfl rfl (B rfl) (Yv.fieldBox rfl fo_82_0 (Eg rfl rfl id)) ?_
   refine AWQ.ygT rfl rfl rfl rfl (B rfl) (Yv.loadBox rfl ag_79 (i := 0) rfl (Eg rfl rfl id) rfl) ?_
   refine AWQ.ygT rfl rfl rfl rfl (B rfl) (Yv.move rfl (E rfl rfl)) ?_
   refine AWQ.ygT rfl rfl rfl rfl (B rfl) (Yv.subN_i64 rfl (Eg rfl rfl id) (E rfl rfl) (fun hg => by first | omega | (simp only [Bool.and_eq_true, Bool.or_eq_false_iff, Bool.not_eq_true', Bool.not_eq_false', decide_eq_true_eq, decide_eq_false_iff_not] at hg; omega))) ?_
   refine AWQ.ygT rfl rfl rfl rfl (B rfl) (Yv.indexRow (j := (i - 1)) rfl ss_79 (i := 1) rfl (Eg rfl rfl id) (Eg rfl rfl id) (fun hg => by first | exact ⟨by omega, by omega⟩ | (simp only [Bool.or_eq_true, Bool.and_eq_true, Bool.or_eq_false_iff, Bool.and_eq_false_iff, Bool.not_eq_true', Bool.not_eq_false', decide_eq_true_eq, decide_eq_false_iff_not, Decidable.not_not] at hg; exact ⟨by omega, by omega⟩))) ?_
   refine AWQ.ygT rfl rfl rfl rfl (B rfl) (Yv.fieldEp rfl fo_93_0 (Eg rfl rfl id)) ?_
   refine AWQ.ygT rfl rfl rfl rfl (B rfl) (Yv.loadEp rfl ag_9 (i := 1) rfl (Eg rfl rfl id) (fun hg => lay_nb (by first | omega | (simp only [Bool.or_eq_true, Bool.and_eq_true, Bool.or_eq_false_iff, Bool.and_eq_false_iff, Bool.not_eq_true', Bool.not_eq_false', decide_eq_true_eq, decide_eq_false_iff_not, Decidable.not_not] at hg; omega)) (by first | omega | (simp only [Bool.or_eq_true, Bool.and_eq_true, Bool.or_eq_false_iff, Bool.and_eq_false_iff, Bool.not_eq_true', Bool.not_eq_false', decide_eq_true_eq, decide_eq_false_iff_not, Decidable.not_not] at hg; omega)))) ?_
   refine AWQ.ygT rfl rfl rfl rfl (B rfl) (Yv.lssS rfl (Eg rfl rfl id) (Eg rfl rfl id)) ?_
   refine AWQ.y rfl rfl (B rfl) (Yv.pickAnd rfl (E rfl rfl) (Eg rfl rfl id)) ?_
   refine AWQ.nil ?_
   refine AW.cond rfl (fun h0t => ?_) (fun h0f => ?_)
   ·
    try replace h0t := of_decide_eq_true h0t
    simp only [Bool.or_eq_true, Bool.and_eq_true, Bool.or_eq_false_iff, Bool.and_eq_false_iff, Bool.not_eq_true', Bool.not_eq_false', decide_eq_true_eq, decide_eq_false_iff_not, Decidable.not_not] at h0t
    refine AW.skip ?_
    refine AW.seq ?_
    refine AW.block ?_
    refine AW.regionP rfl ?_
    refine AWP.take (i := 9) rfl (by kernel_rfl) (by kernel_rfl) (by kernel_rfl) rfl rfl (B rfl) (freeMove rfl (E rfl rfl)) ?_
    refine AWP.take (i := 10) rfl (by kernel_rfl) (by kernel_rfl) (by kernel_rfl) rfl rfl (B rfl) (freeSub_i64 rfl (E rfl rfl) (E rfl rfl) ⟨by omega, by omega⟩) ?_
    refine AWP.phase [true, true, true, true, true, true, true, true, true, false, false, true, true, true, true, true, true, true, true, true, true, true, true, true, true, true, true] 3 rfl (by kernel_rfl) (by kernel_rfl) ?_
    refine AWQ.y rfl rfl (B rfl) (Yv.move rfl (E rfl rfl)) ?_
    refine AWQ.y rfl rfl (B rfl) (Yv.nilChk rfl (E rfl rfl)) ?_
    refine AWQ.y rfl rfl (B rfl) (Yv.fieldBox rfl fo_82_0 (E rfl rfl)) ?_
    refine AWQ.y rfl rfl (B rfl) (Yv.loadBox rfl ag_79 (i := 0) rfl (E rfl rfl) rfl) ?_
    refine AWQ.y rfl rfl (B rfl) (Yv.move rfl (E rfl rfl)) ?_
    refine AWQ.y rfl rfl (B rfl) (Yv.move rfl (E rfl rfl)) ?_
    refine AWQ.y rfl rfl (B rfl) (Yv.nilChk rfl (E rfl rfl)) ?_
    refine AWQ.y rfl rfl (B rfl) (Yv.fieldBox rfl fo_82_0 (E rfl rfl)) ?_
    refine AWQ.y rfl rfl (B rfl) (Yv.loadBox rfl ag_79 (i := 0) rfl (E rfl rfl) rfl) ?_
    refine AWQ.y rfl rfl (B rfl) (Yv.move rfl (E rfl rfl)) ?_
    refine AWQ.y rfl rfl (B rfl) (Yv.nilChk rfl (E rfl rfl)) ?_
    refine AWQ.y rfl rfl (B rfl) (Yv.fieldBox rfl fo_82_0 (E rfl rfl)) ?_
    refine AWQ.y rfl rfl (B rfl) (Yv.loadBox rfl ag_79 (i := 0) rfl (E rfl rfl) rfl) ?_
    refine AWQ.y rfl rfl (B rfl) (Yv.move rfl (E rfl rfl)) ?_
    refine AWQ.y rfl rfl (B rfl) (Yv.subN_i64 rfl (E rfl rfl) (E rfl rfl) (fun hg => by omega)) ?_
    refine AWQ.y rfl rfl (B rfl) (Yv.indexRow (j := (i - 1)) rfl ss_79 (i := 1) rfl (E rfl rfl) (E rfl rfl) (fun hg => by first | exact ⟨by omega, by omega⟩ | (simp only [Bool.or_eq_true, Bool.and_eq_true, Bool.or_eq_false_iff, Bool.and_eq_false_iff, Bool.not_eq_true', Bool.not_eq_false', decide_eq_true_eq, decide_eq_false_iff_not, Decidable.not_not] at hg; exact ⟨by omega, by omega⟩))) ?_
    refine AWQ.y rfl rfl (B rfl) (Yv.loadEpA (l' := fileCells (ds.files.getD (i - 1) default)) rfl ag_93 (i := 1) rfl (E rfl rfl) (fun hg => ⟨by show List.take 2 (List.drop ((i - 1) * 2) _) = _; rw [cells_at (by rw [layL_len hi]; omega), layL_be hi (by omega)], rfl⟩)) ?_
    refine AWQ.y rfl rfl (B rfl) (Yv.move rfl (E rfl rfl)) ?_
    refine AWQ.y rfl rfl (B rfl) (Yv.nilChk rfl (E rfl rfl)) ?_
    refine AWQ.y rfl rfl (B rfl) (Yv.fieldBox rfl fo_82_0 (E rfl rfl)) ?_
    refine AWQ.y rfl rfl (B rfl) (Yv.loadBox rfl ag_79 (i := 0) rfl (E rfl rfl) rfl) ?_
    refine AWQ.y rfl rfl (B rfl) (Yv.move rfl (E rfl rfl)) ?_
    refine AWQ.y rfl rfl (B rfl) (Yv.indexRow (j := i) rfl ss_79 (i := 1) rfl (E rfl rfl) (E rfl rfl) (fun hg => by first | exact ⟨by omega, by omega⟩ | (simp only [Bool.or_eq_true, Bool.and_eq_true, Bool.or_eq_false_iff, Bool.and_eq_false_iff, Bool.not_eq_true', Bool.not_eq_false', decide_eq_true_eq, decide_eq_false_iff_not, Decidable.not_not] at hg; exact ⟨by omega, by omega⟩))) ?_
    refine AWQ.y rfl rfl (B rfl) (Yv.loadEpA (l' := fileCells f) rfl ag_93 (i := 1) rfl (E rfl rfl) (fun hg => ⟨by show List.take 2 (List.drop (i * 2) _) = _; rw [cells_at (by rw [layL_len hi]; omega), layL_at hi], rfl⟩)) ?_
    refine AWQ.y rfl rfl (B rfl) (Yv.indexRow (j := i) rfl ss_79 (i := 1) rfl (E rfl rfl) (E rfl rfl) (fun hg => by first | exact ⟨by omega, by omega⟩ | (simp only [Bool.or_eq_true, Bool.and_eq_true, Bool.or_eq_false_iff, Bool.and_eq_false_iff, Bool.not_eq_true', Bool.not_eq_false', decide_eq_true_eq, decide_eq_false_iff_not, Decidable.not_not] at hg; exact ⟨by omega, by omega⟩))) ?_
    refine AWQ.nil ?_
    refine AWP.one (i := 27) (by kernel_rfl) rfl ?_
    refine AWL.storeEp (i := 1) (m := 2) rfl rfl rfl ag_93 rfl (E rfl rfl) (E rfl rfl) rfl rfl (by decide) (by rw [len_files, layL_len hi]; omega) ?_
    refine nl ?_
    refine AWP.one (i := 28) (by kernel_rfl) rfl ?_
    refine Y1 (Yv.indexRow (j := (i - 1)) rfl ss_79 (i := 1) rfl (E rfl rfl) (E rfl rfl) (fun hg => by first | exact ⟨by omega, by omega⟩ | (simp only [Bool.or_eq_true, Bool.and_eq_true, Bool.or_eq_false_iff, Bool.and_eq_false_iff, Bool.not_eq_true', Bool.not_eq_false', decide_eq_true_eq, decide_eq_false_iff_not, Decidable.not_not] at hg; exact ⟨by omega, by omega⟩))) ?_
    refine nl ?_
    refine AWP.one (i := 29) (by kernel_rfl) rfl ?_
    refine AWL.storeEp (i := 1) (m := 2) rfl rfl rfl ag_93 rfl (E rfl rfl) (E rfl rfl) rfl rfl (by decide) (by show (i - 1) * 2 + 2 ≤ (List.take (i * 2) ((layL f ds.files i).flatMap fileCells) ++ fileCells (ds.files.getD (i - 1) default) ++ List.drop (i * 2 + 2) ((layL f ds.files i).flatMap fileCells)).length; rw [fset_all (by rw [layL_len hi]; omega), len_files, List.length_set, layL_len hi]; omega) ?_
    refine nl ?_
    refine AWP.done (by kernel_rfl) ?_
    refine AW.eqS (S' := DSl b ds f (i - 1) A16 c16) (by
      have e := lay_swap (f := f) (l := ds.files) (i := i) hi (by omega)
      unfold DSl
      rw [← e]
      rfl) ?_
    refine AW.region ?_
    refine Y1 (Yv.move rfl eV) ?_
    refine Y1 (Yv.subN_i64 rfl (E rfl rfl) (E rfl rfl) (fun hg => by omega)) ?_
    refine Y1 (Yv.assign rfl eV) ?_
    refine nl ?_
    refine ⟨i - 1, ⟨by omega, fun y hy => ?_⟩, by omega, Sub.cons rfl rfl (Sub.cons rfl (by rw [Int.natCast_sub (by omega)]; rfl) Sub.nil), rfl⟩
    rw [List.drop_eq_getElem_cons (by omega), show i - 1 + 1 = i by omega] at hy
    rcases List.mem_cons.1 hy with rfl | hy
    · rw [← getD_eq' (by omega)]; exact h0t.2
    · exact hall y hy
   try replace h0f := of_decide_eq_false h0f
   simp only [Bool.or_eq_true, Bool.and_eq_true, Bool.or_eq_false_iff, Bool.and_eq_false_iff, Bool.not_eq_true', Bool.not_eq_false', decide_eq_true_eq, decide_eq_false_iff_not, Decidable.not_not] at h0f
   have hbx : i = 0 ∨ bl f.name (ds.files.getD (i - 1) default).name = false := by
     rcases h0f with h | h
     · exact .inl (by omega)
     · exact .inr h
   refine AW.perm (dsl_perm hi) ?_
   refine AW.exit ?_
   refine retN .nil ?_
   exact ⟨rfl, layL f ds.files i, A16, c16, lay_done hi hall hbx, rfl⟩

theorem lay35 (b : Nat) (ds : DS) (n : Nat) (hw : PB n (pl ds)) (hn : n ≤ 1099511627776) (f : FileR) (hfb : f.bytes.length ≤ 1099511627776) :
    ACalls Try.prog 35 [wp b, sv f.name, .v (.slice f.A f.bytes.length f.c)] (DSt b ds ++ [fileRow f]) (fun t S => t = .tup [] ∧ ∃ fs A c, Laid (nb f) (ds.files.map nb) (fs.map nb) ∧ S = DSt b { ds with files := fs, lA := A, lc := c }) := lay35F b ds n (nfl_of hw) hn f hfb
end Go.Proofs.Ytmiggpnkicdijaa

namespace Go.Proofs.Ytmiggpnkicdijaa
open Go Go.RowKit
set_option linter.unusedSimpArgs false
set_option linter.unusedVariables false
theorem set_rows {l : List FileR} {q : Nat} (h : q < l.length) (f : FileR) : ∃ S', List.Sublist S' (l.map fileRow ++ [fileRow f]) ∧ ((l.set q f).map fileRow).Perm S' := by
  have e0 : l = l.take q ++ l[q] :: l.drop (q + 1) := by rw [← List.drop_eq_getElem_cons h, List.take_append_drop]
  refine ⟨(l.take q).map fileRow ++ ((l.drop (q + 1)).map fileRow ++ [fileRow f]), ?_, ?_⟩
  · conv => rhs; rw [e0]
    rw [List.map_append, List.map_cons, List.append_assoc]
    exact (List.Sublist.refl _).append ((List.Sublist.refl _).cons _)
  · rw [List.set_eq_take_append_cons_drop, if_pos h, List.map_append, List.map_cons]
    exact List.Perm.append_left _ (List.perm_append_singleton _ _).symm
section
variable {cx : Cx} {Q : Exit → Env → St → Prop} {env : Env} {S : St} {ops : Array Oper} {l' : List Oper} {K : Env → St → Prop}
theorem AW.setRow {code : Code} {a b c d : Ent} {l : List FileR} {q : Nat} (f : FileR) (hq : q < l.length) (hS : S = (a :: b :: c :: d :: l.map fileRow) ++ [fileRow f]) (h : AW cx code Q env (a :: b :: c :: d :: (l.set q f).map fileRow)) : AW cx code Q env S := by
  subst hS
  obtain ⟨S', h1, h2⟩ := set_rows hq f
  exact AW.drop (S' := a :: b :: c :: d :: S') ((((h1.cons_cons d).cons_cons c).cons_cons b).cons_cons a) (AW.perm ((((h2.cons d).cons c).cons b).cons a) h)
end
theorem dst_opn {b j : Nat} {ds : DS} (hj : j < ds.opn.length) (d : Desc) :
    .box b 82 (dCells ds) :: .row ds.lA ds.files.length ds.lc 93 2 (ds.files.flatMap fileCells) :: .row ds.dA ds.opn.length ds.dc 86 3 ((ds.opn.flatMap descCells).take (j * 3) ++ descCells d ++ (ds.opn.flatMap descCells).drop (j * 3 + 3)) :: .row ds.tA ds.trace.length ds.tc 36 3 (ds.trace.flatMap evCells) :: ds.files.map fileRow = DSt b { ds with opn := ds.opn.set j d } := by
  rw [dset_all hj]
  unfold DSt dCells
  simp only [List.length_set]
theorem dst_event {b : Nat} {ds : DS} (e : Evt) (A : Option Addr) (c : Nat) : DSt b { ds with trace := ds.trace ++ [e], tA := A, tc := c } =
    .box b 82 [.v (.slice ds.lA ds.files.length ds.lc), sv ds.stdin, .v (.slice ds.dA ds.opn.length ds.dc), .v (.slice A (ds.trace.length + 1) c)] :: .row ds.lA ds.files.length ds.lc 93 2 (ds.files.flatMap fileCells) :: .row ds.dA ds.opn.length ds.dc 86 3 (ds.opn.flatMap descCells) ::
      .row A (ds.trace.length + 1) c 36 3 (ds.trace.flatMap evCells ++ evCells e) :: ds.files.map fileRow := by
  simp only [DSt, dCells, List.length_append, List.length_cons, List.length_nil, List.flatMap_append, List.flatMap_cons, List.flatMap_nil, List.append_nil, Nat.zero_add]
theorem dst_bytes {b q : Nat} {ds : DS} (hq : q < ds.files.length) (A : Option Addr) (s : List UInt8) (c : Nat) :
    DSt b { ds with files := ds.files.set q ⟨(ds.files.getD q default).name, s, A, c⟩ } = .box b 82 (dCells ds) :: .row ds.lA ds.files.length ds.lc 93 2 ((ds.files.flatMap fileCells).set (q * 2 + 1) (.v (.slice A s.length c))) :: .row ds.dA ds.opn.length ds.dc 86 3 (ds.opn.flatMap descCells) :: .row ds.tA ds.trace.length ds.tc 36 3 (ds.trace.flatMap evCells) :: (ds.files.set q ⟨(ds.files.getD q default).name, s, A, c⟩).map fileRow := by
  rw [fset_bytes hq]
  unfold DSt dCells
  simp only [List.length_set]
theorem bad_flag {f : Int} {x r : Bool} (h : (!decide (f = 0) && !decide (f = 577) || x) = r) : ((f ≠ 0 ∧ f ≠ 577) ∨ x = true) ↔ r = true := by
  subst h
  simp
theorem PB.opn_set {n j : Nat} {p : PW} {d : Desc} (h : PB n p) (hd : d.place ≤ n) : PB n { p with opn := p.opn.set j d } :=
  ⟨by show (p.opn.set j d).length = 19; rw [List.length_set]; exact h.opn, h.tr, h.txt, h.fl, fun x hx => by
    rcases List.mem_or_eq_of_mem_set hx with hx | rfl
    · exact h.pl x hx
    · exact hd, h.sin, h.nf⟩
end Go.Proofs.Ytmiggpnkicdijaa

namespace Go.Proofs.Ytmiggpnkicdijaa
open Go Go.RowKit
set_option linter.unusedVariables false
set_option linter.unnecessarySimpa false
set_option linter.unusedSimpArgs false

set_option maxHeartbeats 2000000 in
theorem SysOpen37 (b : Nat) (ds : DS) (n : Nat) (hw : PB n (pl ds)) (hn : n ≤ 1099511627776) (name : List UInt8) (flags : Int) (hnl : name.length ≤ 1099511627776) :
    ACalls Try.prog 37 [wp b, sv name, .v (.int .i64 flags)] (DSt b ds) (fun t S => t = .v (.int .i64 (openV name flags (pl ds))) ∧ ∃ ds', DOpen name flags (pl ds) (pl ds') ∧ S = DSt b ds') := by
  have hw1 := hw
  obtain ⟨ho, htr, htx, hfl, hpl, hsi, hnf⟩ := hw
  have ho : ds.opn.length = 19 := ho
  have htr : ds.trace.length ≤ n := htr
  have hsi : ds.stdin.length ≤ n := hsi
  have hnf : ds.files.length ≤ n := by have h := hnf; unfold pl at h; rwa [List.length_map] at h
  have htxt : ∀ e ∈ ds.trace, e.text.length ≤ n := htx
  refine ACalls.intro Try.func37 rfl Try.ntmps37 (Nat.le_of_ble_eq_true rfl) rfl fun X w0 => ?_
  refine AW.rseq ?_
  refine Y1 (Yv.assign rfl eV) ?_
  refine nl ?_
  refine AW.rseq ?_
  refine Y1 (Yv.move rfl eV) ?_
  refine AWL.callP rfl rfl (B rfl) rfl ce_55 (E rfl rfl) (evsC (E rfl rfl) evs0) (zero55 name hnl) (fun t S h => h) ?_
  refine Y1 (Yv.assign rfl eV) ?_
  refine nl ?_
  refine AW.rseq ?_
  refine Y1 (Yv.move rfl eV) ?_
  refine Y1 (Yv.move rfl eV) ?_
  refine AWL.callAll rfl rfl (B rfl) rfl ce_34 (E rfl rfl) (evsC (E rfl rfl) (evsC (E rfl rfl) evs0)) (find34 b ds n hw1 hn name) ?_
  rintro t14 S14 ⟨rfl, rfl⟩
  refine Y1 (Yv.assign rfl eV) ?_
  refine nl ?_
  refine AW.rseq ?_
  refine Y1 (Yv.assign rfl eV) ?_
  refine nl ?_
  refine AW.seq ?_
  refine AW.block ?_
  refine AW.loop (fun (j : Nat) => [(0, true, wp b), (1, true, sv name), (2, true, .v (.int .i64 flags)), (7, true, .v (.bool (badN name))), (8, true, .v (.int .i64 (findP name (pl ds).files))), (9, true, .v (.int .i64 (j : Int)))]) (fun (j : Nat) => (DSt b ds)) (fun (j : Nat) => j ≤ 19 ∧ ∀ i, i < j → (ds.opn.getD i default).kind ≠ 0) (fun (j : Nat) => 19 - j) 0 ?_ ?_ ?_ ?_
  · exact ⟨Nat.zero_le _, fun i hi => absurd hi (Nat.not_lt_zero i)⟩
  · exact (Sub.cons rfl rfl (Sub.cons rfl rfl (Sub.cons rfl rfl (Sub.cons rfl rfl (Sub.cons rfl rfl (Sub.cons rfl rfl Sub.nil))))))
  · rfl
  ·
   intro j hinv
   obtain ⟨hj, hbef⟩ := hinv
   refine AW.seq ?_
   refine AW.rseq ?_
   refine Y1 (Yv.move rfl eV) ?_
   refine Y1 (Yv.lss rfl eV eV) ?_
   refine Y1 (Yv.move rfl eV) ?_
   refine AWL.ygT rfl rfl rfl rfl (B rfl) (Yv.move rfl (E rfl rfl)) ?_
   refine AWL.ygT rfl rfl rfl rfl (B rfl) (Yv.nilChk rfl (Eg rfl rfl id)) ?_
   refine AWL.ygT rfl rfl rfl rfl (B rfl) (Yv.fieldBox rfl fo_82_2 (Eg rfl rfl id)) ?_
   refine AWL.ygT rfl rfl rfl rfl (B rfl) (Yv.loadBox rfl ag_80 (i := 0) rfl (Eg rfl rfl id) rfl) ?_
   refine AWL.ygT rfl rfl rfl rfl (B rfl) (Yv.move rfl (E rfl rfl)) ?_
   refine AWL.ygT rfl rfl rfl rfl (B rfl) (Yv.indexRow (j := j) rfl ss_80 (i := 2) rfl (Eg rfl rfl id) (Eg rfl rfl id) (fun hg => by first | exact ⟨by omega, by omega⟩ | (simp only [Bool.or_eq_true, Bool.and_eq_true, Bool.or_eq_false_iff, Bool.and_eq_false_iff, Bool.not_eq_true', Bool.not_eq_false', decide_eq_true_eq, decide_eq_false_iff_not, Decidable.not_not] at hg; exact ⟨by omega, by omega⟩))) ?_
   refine AWL.ygT rfl rfl rfl rfl (B rfl) (Yv.fieldEp rfl fo_86_0 (Eg rfl rfl id)) ?_
   refine AWL.ygT rfl rfl rfl rfl (B rfl) (Yv.loadEp rfl ag_3 (i := 2) rfl (Eg rfl rfl id) (fun hg => dkd_at (by first | omega | (simp only [Bool.or_eq_true, Bool.and_eq_true, Bool.or_eq_false_iff, Bool.and_eq_false_iff, Bool.not_eq_true', Bool.not_eq_false', decide_eq_true_eq, decide_eq_false_iff_not, Decidable.not_not] at hg; omega)))) ?_
   refine AWL.ygT rfl rfl rfl rfl (B rfl) (Yv.neq rfl (Eg rfl rfl id) (E rfl rfl)) ?_
   refine Y1 (Yv.pickAnd rfl (E rfl rfl) (Eg rfl rfl id)) ?_
   refine nl ?_
   refine AW.cond rfl (fun h0t => ?_) (fun h0f => ?_)
   ·
    try replace h0t := of_decide_eq_true h0t
    simp only [Bool.or_eq_true, Bool.and_eq_true, Bool.or_eq_false_iff, Bool.and_eq_false_iff, Bool.not_eq_true', Bool.not_eq_false', decide_eq_true_eq, decide_eq_false_iff_not, Decidable.not_not] at h0t
    refine AW.skip ?_
    refine AW.block ?_
    refine AW.region ?_
    refine Y1 (Yv.move rfl eV) ?_
    refine Y1 (Yv.addN_i64 rfl (E rfl rfl) (E rfl rfl) (fun hg => by omega)) ?_
    refine Y1 (Yv.assign rfl eV) ?_
    refine nl ?_
    refine ⟨j + 1, ⟨by omega, fun i hi => ?_⟩, by omega, (Sub.cons rfl rfl (Sub.cons rfl rfl (Sub.cons rfl rfl (Sub.cons rfl rfl (Sub.cons rfl rfl (Sub.cons rfl (by simp) Sub.nil)))))), rfl⟩
    rcases Nat.lt_or_ge i j with h | h
    · exact hbef i h
    · obtain rfl : i = j := by omega
      exact h0t.2
   try replace h0f := of_decide_eq_false h0f
   simp only [Bool.or_eq_true, Bool.and_eq_true, Bool.or_eq_false_iff, Bool.and_eq_false_iff, Bool.not_eq_true', Bool.not_eq_false', decide_eq_true_eq, decide_eq_false_iff_not, Decidable.not_not] at h0f
   refine AW.exit ?_
   refine AW.seq ?_
   refine AW.block ?_
   refine AW.rseq ?_
   refine Y1 (Yv.move rfl eV) ?_
   refine Y1 (Yv.lenL rfl st_9 (E rfl rfl)) ?_
   refine Y1 (Yv.gtr rfl eV eV) ?_
   refine Y1 (Yv.assign rfl eV) ?_
   refine nl ?_
   refine AW.cond rfl (fun h1t => ?_) (fun h1f => ?_)
   ·
    try replace h1t := of_decide_eq_true h1t
    refine AW.rseq ?_
    refine Y1 (Yv.assign rfl eV) ?_
    refine nl ?_
    refine AW.ret (retI (.tmp rfl .nil) ?_)
    have e : openV name flags (pl ds) = -36 := by
      unfold openV
      rw [if_pos (by omega)]
    exact ⟨by rw [e]; rfl, ds, ⟨.inl ⟨by rw [e]; decide, rfl⟩⟩, rfl⟩
   try replace h1f := of_decide_eq_false h1f
   refine AW.rseq ?_
   refine Y1 (Yv.move rfl eV) ?_
   refine Y1 (Yv.neq rfl eV eV) ?_
   refine Y1 (Yv.move rfl eV) ?_
   refine AWL.ygT rfl rfl rfl rfl (B rfl) (Yv.move rfl (E rfl rfl)) ?_
   refine AWL.ygT rfl rfl rfl rfl (B rfl) (Yv.neq rfl (Eg rfl rfl id) (E rfl rfl)) ?_
   refine Y1 (Yv.pickAnd rfl (E rfl rfl) (Eg rfl rfl id)) ?_
   refine Y1 (Yv.move rfl eV) ?_
   refine AWL.ygF rfl rfl rfl rfl (B rfl) (Yv.move rfl (E rfl rfl)) ?_
   refine Y1 (Yv.pickOr (t := .const (.bool true)) rfl (E rfl rfl) (Eg rfl rfl id)) ?_
   refine Y1 (Yv.assign rfl eV) ?_
   refine nl ?_
   refine AW.cond rfl (fun h2t => ?_) (fun h2f => ?_)
   ·
    try replace h2t := of_decide_eq_true h2t
    have hbd : (flags ≠ 0 ∧ flags ≠ 577) ∨ badN name = true := (bad_flag h2t).2 rfl
    refine AW.rseq ?_
    refine Y1 (Yv.assign rfl eV) ?_
    refine nl ?_
    refine AW.ret (retI (.tmp rfl .nil) ?_)
    have e : openV name flags (pl ds) = -22 := by
      unfold openV
      rw [if_neg (by omega), if_pos hbd]
    exact ⟨by rw [e]; rfl, ds, ⟨.inl ⟨by rw [e]; decide, rfl⟩⟩, rfl⟩
   try replace h2f := of_decide_eq_false h2f
   have hbd : ¬ ((flags ≠ 0 ∧ flags ≠ 577) ∨ badN name = true) := fun q => absurd ((bad_flag h2f).1 q) (by decide)
   refine AW.rseq ?_
   refine Y1 (Yv.move rfl eV) ?_
   refine Y1 (Yv.eqlL rfl (E rfl rfl) (E rfl rfl)) ?_
   refine Y1 (Yv.move rfl eV) ?_
   refine AWL.ygF rfl rfl rfl rfl (B rfl) (Yv.move rfl (E rfl rfl)) ?_
   refine AWL.ygF rfl rfl rfl rfl (B rfl) (Yv.eql rfl (Eg rfl rfl id) (E rfl rfl)) ?_
   refine AWL.ygF rfl rfl rfl rfl (B rfl) (Yv.move rfl (Eg rfl rfl id)) ?_
   refine AWL.ygT rfl rfl rfl rfl (B rfl) (Yv.move rfl (E rfl rfl)) ?_
   refine AWL.ygT rfl rfl rfl rfl (B rfl) (Yv.lss rfl (Eg rfl rfl id) (E rfl rfl)) ?_
   refine AWL.ygF rfl rfl rfl rfl (B rfl) (Yv.pickAnd rfl (Eg rfl rfl id) (Eg rfl rfl id)) ?_
   refine Y1 (Yv.pickOr (t := .const (.bool true)) rfl (E rfl rfl) (Eg rfl rfl id)) ?_
   refine Y1 (Yv.assign rfl eV) ?_
   refine nl ?_
   refine AW.cond rfl (fun h3t => ?_) (fun h3f => ?_)
   ·
    try replace h3t := of_decide_eq_true h3t
    simp only [Bool.or_eq_true, Bool.and_eq_true, Bool.or_eq_false_iff, Bool.and_eq_false_iff, Bool.not_eq_true', Bool.not_eq_false', decide_eq_true_eq, decide_eq_false_iff_not, Decidable.not_not] at h3t
    refine AW.rseq ?_
    refine Y1 (Yv.assign rfl eV) ?_
    refine nl ?_
    refine AW.ret (retI (.tmp rfl .nil) ?_)
    have e : openV name flags (pl ds) = -2 := by
      unfold openV
      rw [if_neg (by omega), if_neg hbd]
      by_cases hne : name = []
      · rw [if_pos hne]
      · rcases h3t with h | ⟨h, h2⟩
        · exact absurd h hne
        · have h4 : getP name (pl ds).files = none := by
            rcases findP_get (name := name) (l := (pl ds).files) with ⟨_, h3⟩ | ⟨q1, h3, _⟩
            · exact h3
            · rw [h3] at h2; omega
          rw [if_neg hne, if_pos ⟨h, h4⟩]
    exact ⟨by rw [e]; rfl, ds, ⟨.inl ⟨by rw [e]; decide, rfl⟩⟩, rfl⟩
   try replace h3f := of_decide_eq_false h3f
   simp only [Bool.or_eq_true, Bool.and_eq_true, Bool.or_eq_false_iff, Bool.and_eq_false_iff, Bool.not_eq_true', Bool.not_eq_false', decide_eq_true_eq, decide_eq_false_iff_not, Decidable.not_not] at h3f
   have hne : ¬ name = [] := h3f.1
   have hge : ¬ (flags = 0 ∧ findP name (pl ds).files < 0) := fun q => by
     rcases h3f.2 with h | h
     · exact h q.1
     · omega
   have hnone : ¬ (flags = 0 ∧ getP name (pl ds).files = none) := fun q => by
     rcases findP_get (name := name) (l := (pl ds).files) with ⟨h, _⟩ | ⟨q1, _, _, _, h, _⟩
     · exact hge ⟨q.1, by rw [h]; decide⟩
     · rw [q.2] at h; cases h
   have hR : openV name flags (pl ds) = if freeIx ds.opn < 19 then (freeIx ds.opn : Int) else -24 := by
     unfold openV
     rw [if_neg (by omega), if_neg hbd, if_neg hne, if_neg hnone]
     rfl
   refine AW.rseq ?_
   refine Y1 (Yv.move rfl eV) ?_
   refine Y1 (Yv.eql rfl eV eV) ?_
   refine Y1 (Yv.assign rfl eV) ?_
   refine nl ?_
   refine AW.cond rfl (fun h4t => ?_) (fun h4f => ?_)
   ·
    try replace h4t := of_decide_eq_true h4t
    refine AW.rseq ?_
    refine Y1 (Yv.assign rfl eV) ?_
    refine nl ?_
    refine AW.ret (retI (.tmp rfl .nil) ?_)
    have hnf : ¬ freeIx ds.opn < 19 := by
      rw [← ho]
      exact freeIx_none (fun i hi => hbef i (by omega))
    rw [if_neg hnf] at hR
    exact ⟨by rw [hR]; rfl, ds, ⟨.inl ⟨by rw [hR]; decide, rfl⟩⟩, rfl⟩
   try replace h4f := of_decide_eq_false h4f
   have hk0 : (ds.opn.getD j default).kind = 0 := by
     rcases h0f with h | h
     · omega
     · exact h
   have hix : freeIx ds.opn = j := freeIx_is (by omega) hk0 hbef
   rw [hix, if_pos (by omega)] at hR
   have hnn : ¬ openV name flags (pl ds) < 0 := by rw [hR]; omega
   refine AW.skip ?_
   refine AW.seq ?_
   refine AW.rseq ?_
   refine Y1 (Yv.move rfl eV) ?_
   refine Y1 (Yv.eql rfl eV eV) ?_
   refine nl ?_
   refine AW.cond rfl (fun h5t => ?_) (fun h5f => ?_)
   ·
    try replace h5t := of_decide_eq_true h5t
    refine AW.rseq ?_
    refine Y1 (Yv.move rfl eV) ?_
    refine Y1 (Yv.nilChk rfl eV) ?_
    refine Y1 (Yv.fieldBox rfl fo_82_2 eV) ?_
    refine Y1 (Yv.loadBox rfl ag_80 (i := 0) rfl (E rfl rfl) rfl) ?_
    refine Y1 (Yv.move rfl eV) ?_
    refine Y1 (Yv.move rfl eV) ?_
    refine Y1 (Yv.buildS rfl sh_86 (evpC (E rfl rfl) (evpC (E rfl rfl) evp0)) (fun _ => rfl)) ?_
    refine Y1 (Yv.indexRow (j := j) rfl ss_80 (i := 2) rfl (E rfl rfl) (E rfl rfl) (fun hg => by first | exact ⟨by omega, by omega⟩ | (simp only [Bool.or_eq_true, Bool.and_eq_true, Bool.or_eq_false_iff, Bool.and_eq_false_iff, Bool.not_eq_true', Bool.not_eq_false', decide_eq_true_eq, decide_eq_false_iff_not, Decidable.not_not] at hg; exact ⟨by omega, by omega⟩))) ?_
    refine AWL.storeEp (i := 2) (m := 3) rfl rfl rfl ag_86 rfl (E rfl rfl) (E rfl rfl) rfl rfl (by decide) (by rw [len_desc]; omega) ?_
    refine nl ?_
    refine AW.eqS (S' := DSt b { ds with opn := ds.opn.set j ⟨4, name, 0⟩ }) (dst_opn (by omega) ⟨4, name, 0⟩) ?_
    refine AW.rseq ?_
    refine Y1 (Yv.move rfl eV) ?_
    refine Y1 (Yv.assign rfl eV) ?_
    refine nl ?_
    refine AW.ret (retI (.tmp rfl .nil) ?_)
    refine ⟨by rw [hR]; rfl, { ds with opn := ds.opn.set j ⟨4, name, 0⟩ }, ⟨.inr (.inl ⟨hnn, by omega, ?_⟩)⟩, rfl⟩
    unfold openP
    rw [if_neg hnn, if_neg (by omega), show freeIx (pl ds).opn = j from hix]
    rfl
   try replace h5f := of_decide_eq_false h5f
   have h577 : flags = 577 := by
     by_cases h : flags = 577
     · exact h
     · exact absurd (.inl ⟨h5f, h⟩) hbd
   refine AW.skip ?_
   refine AW.rseq ?_
   refine Y1 (Yv.move rfl eV) ?_
   refine Y1 (Yv.nilChk rfl eV) ?_
   refine Y1 (Yv.fieldBox rfl fo_82_2 eV) ?_
   refine Y1 (Yv.loadBox rfl ag_80 (i := 0) rfl (E rfl rfl) rfl) ?_
   refine Y1 (Yv.move rfl eV) ?_
   refine Y1 (Yv.move rfl eV) ?_
   refine Y1 (Yv.buildS rfl sh_86 (evpC (E rfl rfl) (evpC (E rfl rfl) evp0)) (fun _ => rfl)) ?_
   refine Y1 (Yv.indexRow (j := j) rfl ss_80 (i := 2) rfl (E rfl rfl) (E rfl rfl) (fun hg => by first | exact ⟨by omega, by omega⟩ | (simp only [Bool.or_eq_true, Bool.and_eq_true, Bool.or_eq_false_iff, Bool.and_eq_false_iff, Bool.not_eq_true', Bool.not_eq_false', decide_eq_true_eq, decide_eq_false_iff_not, Decidable.not_not] at hg; exact ⟨by omega, by omega⟩))) ?_
   refine AWL.storeEp (i := 2) (m := 3) rfl rfl rfl ag_86 rfl (E rfl rfl) (E rfl rfl) rfl rfl (by decide) (by rw [len_desc]; omega) ?_
   refine nl ?_
   refine AW.eqS (S' := DSt b { ds with opn := ds.opn.set j ⟨5, name, 0⟩ }) (dst_opn (by omega) ⟨5, name, 0⟩) ?_
   refine AW.seq ?_
   refine AW.rseq ?_
   refine Y1 (Yv.move rfl eV) ?_
   refine Y1 (Yv.geq rfl eV eV) ?_
   refine nl ?_
   refine AW.cond rfl (fun h6t => ?_) (fun h6f => ?_)
   ·
    try replace h6t := of_decide_eq_true h6t
    obtain ⟨q, hfq, hq, hqn, hqg, hqp⟩ := (findP_get (name := name) (l := (pl ds).files)).resolve_left (fun h => by rw [h.1] at h6t; exact absurd h6t (by decide))
    rw [hfq]
    have hq : q < ds.files.length := by have h := hq; unfold pl at h; rwa [List.length_map] at h
    have hqn : (ds.files.getD q default).name = name := by have h := hqn; unfold pl at h; rwa [nb_at hq] at h
    refine AW.region ?_
    refine Y1 (Yv.move rfl eV) ?_
    refine Y1 (Yv.nilChk rfl eV) ?_
    refine Y1 (Yv.fieldBox rfl fo_82_0 eV) ?_
    refine Y1 (Yv.loadBox rfl ag_79 (i := 0) rfl (E rfl rfl) rfl) ?_
    refine Y1 (Yv.move rfl eV) ?_
    refine Y1 (Yv.indexRow rfl ss_79 (i := 1) rfl (E rfl rfl) (E rfl rfl) (fun hg => ⟨rfl, by omega⟩)) ?_
    refine Y1 (Yv.fieldEp rfl fo_93_1 (E rfl rfl)) ?_
    refine AWL.storeEp1 (i := 1) rfl rfl rfl ag_71 rfl (E rfl rfl) (E rfl rfl) rfl rfl (by rw [len_files]; show q * 2 + 1 < ds.files.length * 2; omega) ?_
    refine nl ?_
    refine AW.rowNil 5 1 ?_
    refine AW.setRow (f := ⟨name, [], none, 0⟩) (q := q) (l := ds.files) hq rfl ?_
    refine AW.eqS (S' := DSt b { { ds with opn := ds.opn.set j ⟨5, name, 0⟩ } with files := ds.files.set q ⟨name, [], none, 0⟩ }) (by
      have e := dst_bytes (b := b) (ds := { ds with opn := ds.opn.set j ⟨5, name, 0⟩ }) hq none [] 0
      rw [show (ds.files.getD q default).name = name from hqn] at e
      exact e.symm) ?_
    refine AW.rseq ?_
    refine Y1 (Yv.move rfl eV) ?_
    refine Y1 (Yv.move rfl eV) ?_
    refine Y1 (Yv.nilChk rfl eV) ?_
    refine Y1 (Yv.fieldBox rfl fo_82_3 eV) ?_
    refine Y1 (Yv.loadBox rfl ag_33 (i := 0) rfl (E rfl rfl) rfl) ?_
    refine Y1 (Yv.move rfl eV) ?_
    refine Y1 (Yv.buildS rfl sh_36 (evpC (E rfl rfl) (evpC (E rfl rfl) evp0)) (fun _ => rfl)) ?_
    refine AWL.buildSliceE rfl rfl (B rfl) rfl el_33 (B rfl) rfl (evsC (E rfl rfl) evs0) (Nat.le_of_ble_eq_true rfl) rfl rfl ?_
    refine AWL.appendRow (i := 3) rfl rfl (B rfl) rfl el_33 (B rfl) rfl (E rfl rfl) (SrcT.sl so_33 (B rfl) (E rfl rfl) (m := 1) rfl) (by show ds.trace.length + 1 ≤ maxLen; unfold maxLen; omega) (by show (ds.trace.length + 1) * _ ≤ _; omega) (fun A97 c97 => ?_)
    refine Y1 (Yv.nilChk rfl eV) ?_
    refine Y1 (Yv.fieldBox rfl fo_82_3 eV) ?_
    refine AWL.storeBox (i := 0) rfl rfl rfl ag_33 rfl (E rfl rfl) (E rfl rfl) rfl rfl (Nat.le_of_ble_eq_true rfl) ?_
    refine nl ?_
    refine AW.rseq ?_
    refine Y1 (Yv.move rfl eV) ?_
    refine Y1 (Yv.assign rfl eV) ?_
    refine nl ?_
    refine AW.ret (retI (.tmp rfl .nil) ?_)
    refine ⟨by rw [hR]; rfl, { { ds with opn := ds.opn.set j ⟨5, name, 0⟩ } with files := ds.files.set q ⟨name, [], none, 0⟩, trace := ds.trace ++ [⟨3, name, []⟩], tA := A97, tc := c97 }, ⟨.inr (.inr ⟨hnn, h577, ?_, rfl, rfl, .inl ⟨⟨_, hqg⟩, ?_⟩⟩)⟩, ?_⟩
    · rw [show freeIx (pl ds).opn = j from hix]; rfl
    · rw [hqp]
      show (ds.files.set q ⟨name, [], none, 0⟩).map nb = _
      rw [List.map_set]
      rfl
    · exact (dst_event (b := b) (ds := { { ds with opn := ds.opn.set j ⟨5, name, 0⟩ } with files := ds.files.set q ⟨name, [], none, 0⟩ }) ⟨3, name, []⟩ A97 c97).symm
   try replace h6f := of_decide_eq_false h6f
   have hgn := (findP_get (name := name) (l := (pl ds).files)).resolve_right (fun ⟨q, h, _⟩ => by rw [h] at h6f; omega)
   refine AW.rowNil 5 1 ?_
   refine AW.region ?_
   refine Y1 (Yv.move rfl eV) ?_
   refine Y1 (Yv.move rfl eV) ?_
   refine AWL.callAll rfl rfl (B rfl) rfl ce_35 (E rfl rfl) (evsC (E rfl rfl) (evsC (E rfl rfl) (evsC (E rfl rfl) evs0))) (lay35 b { ds with opn := ds.opn.set j ⟨5, name, 0⟩ } n (hw1.opn_set (Nat.zero_le n)) hn ⟨name, [], none, 0⟩ (Nat.zero_le _)) ?_
   rintro t88 S88 ⟨rfl, fs88, A88, c88, hl88, rfl⟩
   refine nl ?_
   refine AW.rseq ?_
   refine Y1 (Yv.move rfl eV) ?_
   refine Y1 (Yv.move rfl eV) ?_
   refine Y1 (Yv.nilChk rfl eV) ?_
   refine Y1 (Yv.fieldBox rfl fo_82_3 eV) ?_
   refine Y1 (Yv.loadBox rfl ag_33 (i := 0) rfl (E rfl rfl) rfl) ?_
   refine Y1 (Yv.move rfl eV) ?_
   refine Y1 (Yv.buildS rfl sh_36 (evpC (E rfl rfl) (evpC (E rfl rfl) evp0)) (fun _ => rfl)) ?_
   refine AWL.buildSliceE rfl rfl (B rfl) rfl el_33 (B rfl) rfl (evsC (E rfl rfl) evs0) (Nat.le_of_ble_eq_true rfl) rfl rfl ?_
   refine AWL.appendRow (i := 3) rfl rfl (B rfl) rfl el_33 (B rfl) rfl (E rfl rfl) (SrcT.sl so_33 (B rfl) (E rfl rfl) (m := 1) rfl) (by show ds.trace.length + 1 ≤ maxLen; unfold maxLen; omega) (by show (ds.trace.length + 1) * _ ≤ _; omega) (fun A97 c97 => ?_)
   refine Y1 (Yv.nilChk rfl eV) ?_
   refine Y1 (Yv.fieldBox rfl fo_82_3 eV) ?_
   refine AWL.storeBox (i := 0) rfl rfl rfl ag_33 rfl (E rfl rfl) (E rfl rfl) rfl rfl (Nat.le_of_ble_eq_true rfl) ?_
   refine nl ?_
   refine AW.rseq ?_
   refine Y1 (Yv.move rfl eV) ?_
   refine Y1 (Yv.assign rfl eV) ?_
   refine nl ?_
   refine AW.ret (retI (.tmp rfl .nil) ?_)
   refine ⟨by rw [hR]; rfl, { { ds with opn := ds.opn.set j ⟨5, name, 0⟩ } with files := fs88, lA := A88, lc := c88, trace := ds.trace ++ [⟨3, name, []⟩], tA := A97, tc := c97 }, ⟨.inr (.inr ⟨hnn, h577, ?_, rfl, rfl, .inr ⟨hgn.2, ?_⟩⟩)⟩, ?_⟩
   · rw [show freeIx (pl ds).opn = j from hix]; rfl
   · exact hl88
   · exact (dst_event (b := b) (ds := { { ds with opn := ds.opn.set j ⟨5, name, 0⟩ } with files := fs88, lA := A88, lc := c88 }) ⟨3, name, []⟩ A97 c97).symm

end Go.Proofs.Ytmiggpnkicdijaa

namespace Go.Proofs.Ytmiggpnkicdijaa
open Go Go.RowKit
set_option linter.unusedSimpArgs false
set_option linter.unusedVariables false
theorem dfile_row {b q : Nat} {ds : DS} (hq : q < ds.files.length) : (DSt b ds)[q + 4]? = some (fileRow (ds.files.getD q default)) := by
  unfold DSt
  simp only [List.getElem?_cons_succ]
  rw [List.getElem?_map, List.getElem?_eq_getElem hq, getD_eq' hq]
  rfl
def atP (d : Desc) (p : Nat) : Desc := { d with place := p }
theorem set_getD {α : Type} [Inhabited α] {l : List α} {j : Nat} (h : j < l.length) : l.set j (l.getD j default) = l := by
  rw [getD_eq' h, List.set_getElem_self]
theorem atP_self (d : Desc) : atP d d.place = d := rfl
theorem dpl_set {l : List Desc} {j : Nat} {d : Desc} (h : j < l.length) : ((l.set j d).flatMap descCells)[j * 3 + 2]? = some (.v (.int .i64 (d.place : Int))) := by
  rw [dpl_at (by rw [List.length_set]; exact h), getD_eq' (by rw [List.length_set]; exact h), List.getElem_set_self]
theorem dnm_set {l : List Desc} {j : Nat} {d : Desc} (h : j < l.length) : ((l.set j d).flatMap descCells)[j * 3 + 1]? = some (sv d.name) := by
  rw [dnm_at (by rw [List.length_set]; exact h), getD_eq' (by rw [List.length_set]; exact h), List.getElem_set_self]
/-- The world's entries while a descriptor moves on. -/
def DSp (b : Nat) (ds : DS) (j p : Nat) : St := DSt b { ds with opn := ds.opn.set j (atP (ds.opn.getD j default) p) }
theorem dsp_self {b j : Nat} {ds : DS} (h : j < ds.opn.length) : DSp b ds j (ds.opn.getD j default).place = DSt b ds := by
  unfold DSp
  rw [atP_self, set_getD h]
theorem dsp_step {b j p : Nat} {ds : DS} (h : j < ds.opn.length) : (DSp b ds j p).set 2 (.row ds.dA (ds.opn.set j (atP (ds.opn.getD j default) p)).length ds.dc 86 3 (((ds.opn.set j (atP (ds.opn.getD j default) p)).flatMap descCells).set (j * 3 + 2) (.v (.int .i64 ((p : Int) + 1))))) = DSp b ds j (p + 1) := by
  have e := dset_place (l := ds.opn.set j (atP (ds.opn.getD j default) p)) (j := j) (by rw [List.length_set]; exact h) (p + 1)
  simp only [getD_set h, List.set_set] at e
  rw [show ((p : Int) + 1) = ((p + 1 : Nat) : Int) by omega, e]
  unfold DSp DSt dCells
  simp only [List.length_set]
  rfl
theorem dfile_rowp {b q j p : Nat} {ds : DS} (hq : q < ds.files.length) : (DSp b ds j p)[q + 4]? = some (fileRow (ds.files.getD q default)) := by
  unfold DSp
  exact dfile_row (ds := { ds with opn := ds.opn.set j (atP (ds.opn.getD j default) p) }) hq
theorem byte_at {l : List UInt8} {i : Nat} (h : i < l.length) : (l.map u8)[i * 1]? = some (u8 (l.getD i 0)) := by
  rw [Nat.mul_one, List.getElem?_map, List.getElem?_eq_getElem h, List.getD_eq_getElem?_getD, List.getElem?_eq_getElem h]
  rfl
theorem take_step {l : List UInt8} {p k : Nat} (h : p + k < l.length) : ((l.drop p).take k).map u8 ++ [u8 (l.getD (p + k) 0)] = ((l.drop p).take (k + 1)).map u8 := by
  have hk : k < (l.drop p).length := by rw [List.length_drop]; omega
  rw [List.take_add_one, List.getElem?_drop, List.map_append]
  rw [List.getElem?_eq_getElem h, List.getD_eq_getElem?_getD, List.getElem?_eq_getElem h]
  rfl
/-- What a read of a file gives. -/
theorem read_file {ds : DS} {j q N : Nat} {fd : Int} (hfd : fd = (j : Int)) (hk : kindP fd (pl ds) = 4) (hq : q < ds.files.length) (hg : getP (ds.opn.getD j default).name (pl ds).files = some (ds.files.getD q default).bytes) :
    readV fd (N : Int) (pl ds) = (((ds.files.getD q default).bytes.drop (ds.opn.getD j default).place).take N, ((((ds.files.getD q default).bytes.drop (ds.opn.getD j default).place).take N).length : Int)) ∧
    readP fd (N : Int) (pl ds) = { pl ds with opn := ds.opn.set j (atP (ds.opn.getD j default) ((ds.opn.getD j default).place + (((ds.files.getD q default).bytes.drop (ds.opn.getD j default).place).take N).length)) } := by
  subst hfd
  have e : ((pl ds).opn.getD (j : Int).toNat default) = ds.opn.getD j default := rfl
  unfold readV readP
  rw [hk, if_neg (by decide), if_pos rfl, if_neg (by decide), if_pos rfl, e, hg]
  exact ⟨rfl, rfl⟩
end Go.Proofs.Ytmiggpnkicdijaa

namespace Go.Proofs.Ytmiggpnkicdijaa
open Go Go.RowKit
set_option linter.unusedVariables false
set_option linter.unnecessarySimpa false
set_option linter.unusedSimpArgs false

set_option maxHeartbeats 2000000 in
theorem SysRead39 (b : Nat) (ds : DS) (n : Nat) (hw : PB n (pl ds)) (hn : n ≤ 1099511627776) (hnm : Named (pl ds)) (fd : Int) (N : Nat) :
    ACalls Try.prog 39 [wp b, .v (.int .i64 fd), .v (.int .u64 (N : Int))] (DSt b ds) (fun t S => t = .tup [sv (readV fd (N : Int) (pl ds)).1, .v (.int .i64 (readV fd (N : Int) (pl ds)).2)] ∧ S = DSt b { ds with stdin := (readP fd (N : Int) (pl ds)).stdin, opn := (readP fd (N : Int) (pl ds)).opn }) := by
  have hw1 := hw
  obtain ⟨ho, htr, htx, hfl, hpl, hsi, hnf⟩ := hw
  have ho : ds.opn.length = 19 := ho
  have htr : ds.trace.length ≤ n := htr
  have hsi : ds.stdin.length ≤ n := hsi
  have hnf : ds.files.length ≤ n := by have h := hnf; unfold pl at h; rwa [List.length_map] at h
  have htxt : ∀ e ∈ ds.trace, e.text.length ≤ n := htx
  have hplx : ∀ d ∈ ds.opn, d.place ≤ n := hpl
  refine ACalls.intro Try.func39 rfl Try.ntmps39 (Nat.le_of_ble_eq_true rfl) rfl fun X w0 => ?_
  refine AW.rseq ?_
  refine Y1 (Yv.assign rfl eV) ?_
  refine Y1 (Yv.assign rfl eV) ?_
  refine nl ?_
  refine AW.rseq ?_
  refine Y1 (Yv.move rfl eV) ?_
  refine Y1 (Yv.move rfl eV) ?_
  refine AWL.callAll rfl rfl (B rfl) rfl ce_56 (E rfl rfl) (evsC (E rfl rfl) (evsC (E rfl rfl) evs0)) (kind56 b ds n hw1 hn fd) ?_
  rintro t15 S15 ⟨rfl, rfl⟩
  refine Y1 (Yv.assign rfl eV) ?_
  refine nl ?_
  refine AW.seq ?_
  refine AW.rseq ?_
  refine Y1 (Yv.move rfl eV) ?_
  refine Y1 (Yv.eql rfl eV eV) ?_
  refine nl ?_
  refine AW.cond rfl (fun h0t => ?_) (fun h0f => ?_)
  ·
   try replace h0t := of_decide_eq_true h0t
   have hk1 : kindP fd (pl ds) = 1 := h0t
   refine AW.rseq ?_
   refine Y1 (Yv.move rfl eV) ?_
   refine Y1 (Yv.nilChk rfl eV) ?_
   refine Y1 (Yv.fieldBox rfl fo_82_1 eV) ?_
   refine Y1 (Yv.loadBox rfl ag_9 (i := 0) rfl (E rfl rfl) rfl) ?_
   refine Y1 (Yv.lenL rfl st_9 (E rfl rfl)) ?_
   refine Y1 (Yv.assign rfl eV) ?_
   refine nl ?_
   refine AW.seq ?_
   refine AW.rseq ?_
   refine Y1 (Yv.move rfl eV) ?_
   refine Y1 (Yv.move rfl eV) ?_
   refine Y1 (Yv.convN_u64 rfl Try.underlying3 kd_51 (E rfl rfl) (fun hg => by omega)) ?_
   refine Y1 (Yv.lss rfl eV eV) ?_
   refine nl ?_
   refine AW.cond rfl (fun h1t => ?_) (fun h1f => ?_)
   ·
    try replace h1t := of_decide_eq_true h1t
    refine AW.region ?_
    refine Y1 (Yv.move rfl eV) ?_
    refine Y1 (Yv.convN_i64 rfl Try.underlying51 kd_3 (E rfl rfl) (fun hg => by omega)) ?_
    refine Y1 (Yv.assign rfl eV) ?_
    refine nl ?_
    refine AW.rseq ?_
    refine Y1 (Yv.move rfl eV) ?_
    refine Y1 (Yv.nilChk rfl eV) ?_
    refine Y1 (Yv.fieldBox rfl fo_82_1 eV) ?_
    refine Y1 (Yv.loadBox rfl ag_9 (i := 0) rfl (E rfl rfl) rfl) ?_
    refine Y1 (Yv.move rfl eV) ?_
    refine Y1 (Yv.sliceL rfl st_9 (E rfl rfl) Bound.none_ (Bound.some_ (E rfl rfl) (fun hg => rfl)) (fun hg => ⟨by omega, by omega⟩)) ?_
    refine Y1 (Yv.assign rfl eV) ?_
    refine nl ?_
    refine AW.rseq ?_
    refine Y1 (Yv.move rfl eV) ?_
    refine Y1 (Yv.move rfl eV) ?_
    refine Y1 (Yv.nilChk rfl eV) ?_
    refine Y1 (Yv.fieldBox rfl fo_82_1 eV) ?_
    refine Y1 (Yv.loadBox rfl ag_9 (i := 0) rfl (E rfl rfl) rfl) ?_
    refine Y1 (Yv.move rfl eV) ?_
    refine Y1 (Yv.sliceL rfl st_9 (E rfl rfl) (Bound.some_ (E rfl rfl) (fun hg => rfl)) Bound.none_ (fun hg => ⟨by omega, by omega⟩)) ?_
    refine Y1 (Yv.nilChk rfl eV) ?_
    refine Y1 (Yv.fieldBox rfl fo_82_1 eV) ?_
    refine AWL.storeBox (i := 0) rfl rfl rfl ag_9 rfl (E rfl rfl) (E rfl rfl) rfl rfl (Nat.le_of_ble_eq_true rfl) ?_
    refine nl ?_
    refine AW.rseq ?_
    refine Y1 (Yv.move rfl eV) ?_
    refine Y1 (Yv.move rfl eV) ?_
    refine Y1 (Yv.assign rfl eV) ?_
    refine Y1 (Yv.assign rfl eV) ?_
    refine nl ?_
    refine AW.ret (retI (.tmp rfl (.tmp rfl .nil)) ?_)
    have e1 : readV fd (N : Int) (pl ds) = (ds.stdin.take N, (N : Int)) := by
      unfold readV
      rw [if_pos hk1]
      show (ds.stdin.take N, ((ds.stdin.take N).length : Int)) = _
      rw [List.length_take, Nat.min_eq_left (by omega)]
    have e2 : readP fd (N : Int) (pl ds) = { pl ds with stdin := ds.stdin.drop N } := by
      unfold readP
      rw [if_pos hk1]
      rfl
    have e3 : (ds.stdin.drop N).take (ds.stdin.length - N) = ds.stdin.drop N := List.take_of_length_le (by rw [List.length_drop]; omega)
    rw [e1, e2]
    exact ⟨rfl, congrArg (fun z => DSt b { ds with stdin := z }) e3⟩
   try replace h1f := of_decide_eq_false h1f
   refine AW.skip ?_
   refine AW.rseq ?_
   refine Y1 (Yv.move rfl eV) ?_
   refine Y1 (Yv.nilChk rfl eV) ?_
   refine Y1 (Yv.fieldBox rfl fo_82_1 eV) ?_
   refine Y1 (Yv.loadBox rfl ag_9 (i := 0) rfl (E rfl rfl) rfl) ?_
   refine Y1 (Yv.move rfl eV) ?_
   refine Y1 (Yv.sliceL rfl st_9 (E rfl rfl) Bound.none_ (Bound.some_ (E rfl rfl) (fun hg => rfl)) (fun hg => ⟨by omega, by omega⟩)) ?_
   refine Y1 (Yv.assign rfl eV) ?_
   refine nl ?_
   refine AW.rseq ?_
   refine Y1 (Yv.move rfl eV) ?_
   refine Y1 (Yv.move rfl eV) ?_
   refine Y1 (Yv.nilChk rfl eV) ?_
   refine Y1 (Yv.fieldBox rfl fo_82_1 eV) ?_
   refine Y1 (Yv.loadBox rfl ag_9 (i := 0) rfl (E rfl rfl) rfl) ?_
   refine Y1 (Yv.move rfl eV) ?_
   refine Y1 (Yv.sliceL rfl st_9 (E rfl rfl) (Bound.some_ (E rfl rfl) (fun hg => rfl)) Bound.none_ (fun hg => ⟨by omega, by omega⟩)) ?_
   refine Y1 (Yv.nilChk rfl eV) ?_
   refine Y1 (Yv.fieldBox rfl fo_82_1 eV) ?_
   refine AWL.storeBox (i := 0) rfl rfl rfl ag_9 rfl (E rfl rfl) (E rfl rfl) rfl rfl (Nat.le_of_ble_eq_true rfl) ?_
   refine nl ?_
   refine AW.rseq ?_
   refine Y1 (Yv.move rfl eV) ?_
   refine Y1 (Yv.move rfl eV) ?_
   refine Y1 (Yv.assign rfl eV) ?_
   refine Y1 (Yv.assign rfl eV) ?_
   refine nl ?_
   refine AW.ret (retI (.tmp rfl (.tmp rfl .nil)) ?_)
   have e1 : readV fd (N : Int) (pl ds) = (ds.stdin.take ds.stdin.length, (ds.stdin.length : Int)) := by
     unfold readV
     rw [if_pos hk1]
     show (ds.stdin.take N, ((ds.stdin.take N).length : Int)) = _
     rw [List.take_of_length_le (show ds.stdin.length ≤ N by omega), List.take_length]
   have e2 : readP fd (N : Int) (pl ds) = { pl ds with stdin := ds.stdin.drop N } := by
     unfold readP
     rw [if_pos hk1]
     rfl
   have e3 : (ds.stdin.drop ds.stdin.length).take (ds.stdin.length - ds.stdin.length) = ds.stdin.drop N := by rw [Nat.sub_self, List.take_zero, List.drop_of_length_le (by omega)]
   rw [e1, e2]
   exact ⟨rfl, congrArg (fun z => DSt b { ds with stdin := z }) e3⟩
  try replace h0f := of_decide_eq_false h0f
  refine AW.skip ?_
  refine AW.seq ?_
  refine AW.rseq ?_
  refine Y1 (Yv.move rfl eV) ?_
  refine Y1 (Yv.neq rfl eV eV) ?_
  refine nl ?_
  refine AW.cond rfl (fun h2t => ?_) (fun h2f => ?_)
  ·
   try replace h2t := of_decide_eq_true h2t
   have hk4 : ¬ kindP fd (pl ds) = 4 := by simpa using h2t
   refine AW.rseq ?_
   refine Y1 (Yv.assign rfl eV) ?_
   refine Y1 (Yv.assign rfl eV) ?_
   refine nl ?_
   refine AW.ret (retI (.tmp rfl (.tmp rfl .nil)) ?_)
   have e1 : readV fd (N : Int) (pl ds) = ([], -9) := by unfold readV; rw [if_neg h0f, if_neg hk4]
   have e2 : readP fd (N : Int) (pl ds) = pl ds := by unfold readP; rw [if_neg h0f, if_neg hk4]
   rw [e1, e2]
   exact ⟨rfl, rfl⟩
  try replace h2f := of_decide_eq_false h2f
  have hk4 : kindP fd (pl ds) = 4 := by simpa using h2f
  refine AW.skip ?_
  obtain ⟨hf0, hf1, hfl', hmem, hke⟩ := kind_in hnm (fd := fd) (by omega)
  obtain ⟨j, rfl⟩ : ∃ j : Nat, fd = (j : Int) := ⟨fd.toNat, by omega⟩
  have hsome := hnm.2 _ hmem (.inl (by rw [← hke]; exact hk4))
  have hsome : (getP (ds.opn.getD j default).name (pl ds).files).isSome = true := hsome
  obtain ⟨q, hfq, hq, hqn, hqg, hqp⟩ := (findP_get (name := (ds.opn.getD j default).name) (l := (pl ds).files)).resolve_left (fun h => by rw [h.2] at hsome; cases hsome)
  have hq : q < ds.files.length := by have h := hq; unfold pl at h; rwa [List.length_map] at h
  have hqg : getP (ds.opn.getD j default).name (pl ds).files = some (ds.files.getD q default).bytes := by
    rw [hqg]
    unfold pl
    rw [nb_at hq]
    rfl
  have hjl : j < ds.opn.length := by omega
  have hpj : (ds.opn.getD j default).place ≤ n := hplx _ (getD_mem' hjl)
  have hfb : (ds.files.getD q default).bytes.length ≤ n := hfl (nb (ds.files.getD q default)) (List.mem_map_of_mem (getD_mem' hq))
  have hrf := read_file (N := N) rfl hk4 hq hqg
  refine AW.mid (α := Unit) (fun _ => [(0, true, wp b), (1, true, .v (.int .i64 (j : Int))), (2, true, .v (.int .u64 (N : Int))), (11, true, .v (.slice (ds.files.getD q default).A (ds.files.getD q default).bytes.length (ds.files.getD q default).c))]) (fun _ => DSt b ds) (fun _ => True) ?_ ?_
  ·
   refine AW.regionP rfl ?_
   refine AWP.take (i := 0) rfl (by kernel_rfl) (by kernel_rfl) (by kernel_rfl) rfl rfl (B rfl) (freeMove rfl (E rfl rfl)) ?_
   refine AWP.take (i := 1) rfl (by kernel_rfl) (by kernel_rfl) (by kernel_rfl) rfl rfl (B rfl) (freeNil rfl (E rfl rfl)) ?_
   refine AWP.take (i := 2) rfl (by kernel_rfl) (by kernel_rfl) (by kernel_rfl) rfl rfl (B rfl) (freeField rfl fo_82_0 (E rfl rfl)) ?_
   refine AWP.take (i := 4) rfl (by kernel_rfl) (by kernel_rfl) (by kernel_rfl) rfl rfl (B rfl) (freeMove rfl (E rfl rfl)) ?_
   refine AWP.take (i := 5) rfl (by kernel_rfl) (by kernel_rfl) (by kernel_rfl) rfl rfl (B rfl) (freeMove rfl (E rfl rfl)) ?_
   refine AWP.take (i := 6) rfl (by kernel_rfl) (by kernel_rfl) (by kernel_rfl) rfl rfl (B rfl) (freeNil rfl (E rfl rfl)) ?_
   refine AWP.take (i := 7) rfl (by kernel_rfl) (by kernel_rfl) (by kernel_rfl) rfl rfl (B rfl) (freeField rfl fo_82_2 (E rfl rfl)) ?_
   refine AWP.take (i := 9) rfl (by kernel_rfl) (by kernel_rfl) (by kernel_rfl) rfl rfl (B rfl) (freeMove rfl (E rfl rfl)) ?_
   refine AWP.two (i := 3) (j := 8) (by kernel_rfl) rfl rfl ?_ ?_
   ·
    refine Y1 (Yv.loadBox rfl ag_79 (i := 0) rfl (E rfl rfl) rfl) ?_
    refine nl ?_
    refine AWP.one (i := 8) (by kernel_rfl) rfl ?_
    refine Y1 (Yv.loadBox rfl ag_80 (i := 0) rfl (E rfl rfl) rfl) ?_
    refine nl ?_
    refine AWP.one (i := 10) (by kernel_rfl) rfl ?_
    refine Y1 (Yv.indexRow (j := j) rfl ss_80 (i := 2) rfl (E rfl rfl) (E rfl rfl) (fun hg => by first | exact ⟨by omega, by omega⟩ | (simp only [Bool.or_eq_true, Bool.and_eq_true, Bool.or_eq_false_iff, Bool.and_eq_false_iff, Bool.not_eq_true', Bool.not_eq_false', decide_eq_true_eq, decide_eq_false_iff_not, Decidable.not_not] at hg; exact ⟨by omega, by omega⟩))) ?_
    refine nl ?_
    refine AWP.one (i := 11) (by kernel_rfl) rfl ?_
    refine Y1 (Yv.fieldEp rfl fo_86_1 (E rfl rfl)) ?_
    refine nl ?_
    refine AWP.one (i := 12) (by kernel_rfl) rfl ?_
    refine Y1 (Yv.loadEp rfl ag_9 (i := 2) rfl (E rfl rfl) (fun hg => dnm_at (by first | omega | (simp only [Bool.or_eq_true, Bool.and_eq_true, Bool.or_eq_false_iff, Bool.and_eq_false_iff, Bool.not_eq_true', Bool.not_eq_false', decide_eq_true_eq, decide_eq_false_iff_not, Decidable.not_not] at hg; omega)))) ?_
    refine nl ?_
    refine AWP.one (i := 13) (by kernel_rfl) rfl ?_
    refine AWL.callAll rfl rfl (B rfl) rfl ce_34 (E rfl rfl) (evsC (E rfl rfl) (evsC (E rfl rfl) evs0)) (find34 b ds n hw1 hn (ds.opn.getD j default).name) ?_
    rintro t61 S61 ⟨rfl, rfl⟩
    rw [hfq]
    refine nl ?_
    refine AWP.one (i := 14) (by kernel_rfl) rfl ?_
    refine Y1 (Yv.indexRow (j := q) rfl ss_79 (i := 1) rfl (E rfl rfl) (E rfl rfl) (fun hg => by first | exact ⟨by omega, by omega⟩ | (simp only [Bool.or_eq_true, Bool.and_eq_true, Bool.or_eq_false_iff, Bool.and_eq_false_iff, Bool.not_eq_true', Bool.not_eq_false', decide_eq_true_eq, decide_eq_false_iff_not, Decidable.not_not] at hg; exact ⟨by omega, by omega⟩))) ?_
    refine nl ?_
    refine AWP.one (i := 15) (by kernel_rfl) rfl ?_
    refine Y1 (Yv.fieldEp rfl fo_93_1 (E rfl rfl)) ?_
    refine nl ?_
    refine AWP.one (i := 16) (by kernel_rfl) rfl ?_
    refine Y1 (Yv.loadEp rfl ag_71 (i := 1) rfl (E rfl rfl) (fun hg => fby_at (by first | omega | (simp only [Bool.or_eq_true, Bool.and_eq_true, Bool.or_eq_false_iff, Bool.and_eq_false_iff, Bool.not_eq_true', Bool.not_eq_false', decide_eq_true_eq, decide_eq_false_iff_not, Decidable.not_not] at hg; omega)))) ?_
    refine nl ?_
    refine AWP.one (i := 17) (by kernel_rfl) rfl ?_
    refine Y1 (Yv.assign rfl eV) ?_
    refine nl ?_
    refine AWP.done (by kernel_rfl) ?_
    exact ⟨(), trivial, (Sub.cons rfl rfl (Sub.cons rfl rfl (Sub.cons rfl rfl (Sub.cons rfl rfl Sub.nil)))), rfl⟩
   ·
    refine Y1 (Yv.loadBox rfl ag_80 (i := 0) rfl (E rfl rfl) rfl) ?_
    refine nl ?_
    refine AWP.take (i := 10) rfl (by kernel_rfl) (by kernel_rfl) (by kernel_rfl) rfl rfl (B rfl) (freeIdxRow (i := 2) rfl ss_80 rfl (E rfl rfl) (E rfl rfl) ⟨rfl, by omega⟩) ?_
    refine AWP.take (i := 11) rfl (by kernel_rfl) (by kernel_rfl) (by kernel_rfl) rfl rfl (B rfl) (freeFieldEp rfl fo_86_1 (E rfl rfl)) ?_
    refine AWP.two (i := 3) (j := 12) (by kernel_rfl) rfl rfl ?_ ?_
    ·
     refine Y1 (Yv.loadBox rfl ag_79 (i := 0) rfl (E rfl rfl) rfl) ?_
     refine nl ?_
     refine AWP.one (i := 12) (by kernel_rfl) rfl ?_
     refine Y1 (Yv.loadEp rfl ag_9 (i := 2) rfl (E rfl rfl) (fun hg => dnm_at (by first | omega | (simp only [Bool.or_eq_true, Bool.and_eq_true, Bool.or_eq_false_iff, Bool.and_eq_false_iff, Bool.not_eq_true', Bool.not_eq_false', decide_eq_true_eq, decide_eq_false_iff_not, Decidable.not_not] at hg; omega)))) ?_
     refine nl ?_
     refine AWP.one (i := 13) (by kernel_rfl) rfl ?_
     refine AWL.callAll rfl rfl (B rfl) rfl ce_34 (E rfl rfl) (evsC (E rfl rfl) (evsC (E rfl rfl) evs0)) (find34 b ds n hw1 hn (ds.opn.getD j default).name) ?_
     rintro t61 S61 ⟨rfl, rfl⟩
     rw [hfq]
     refine nl ?_
     refine AWP.one (i := 14) (by kernel_rfl) rfl ?_
     refine Y1 (Yv.indexRow (j := q) rfl ss_79 (i := 1) rfl (E rfl rfl) (E rfl rfl) (fun hg => by first | exact ⟨by omega, by omega⟩ | (simp only [Bool.or_eq_true, Bool.and_eq_true, Bool.or_eq_false_iff, Bool.and_eq_false_iff, Bool.not_eq_true', Bool.not_eq_false', decide_eq_true_eq, decide_eq_false_iff_not, Decidable.not_not] at hg; exact ⟨by omega, by omega⟩))) ?_
     refine nl ?_
     refine AWP.one (i := 15) (by kernel_rfl) rfl ?_
     refine Y1 (Yv.fieldEp rfl fo_93_1 (E rfl rfl)) ?_
     refine nl ?_
     refine AWP.one (i := 16) (by kernel_rfl) rfl ?_
     refine Y1 (Yv.loadEp rfl ag_71 (i := 1) rfl (E rfl rfl) (fun hg => fby_at (by first | omega | (simp only [Bool.or_eq_true, Bool.and_eq_true, Bool.or_eq_false_iff, Bool.and_eq_false_iff, Bool.not_eq_true', Bool.not_eq_false', decide_eq_true_eq, decide_eq_false_iff_not, Decidable.not_not] at hg; omega)))) ?_
     refine nl ?_
     refine AWP.one (i := 17) (by kernel_rfl) rfl ?_
     refine Y1 (Yv.assign rfl eV) ?_
     refine nl ?_
     refine AWP.done (by kernel_rfl) ?_
     exact ⟨(), trivial, (Sub.cons rfl rfl (Sub.cons rfl rfl (Sub.cons rfl rfl (Sub.cons rfl rfl Sub.nil)))), rfl⟩
    ·
     refine Y1 (Yv.loadEp rfl ag_9 (i := 2) rfl (E rfl rfl) (fun hg => dnm_at (by first | omega | (simp only [Bool.or_eq_true, Bool.and_eq_true, Bool.or_eq_false_iff, Bool.and_eq_false_iff, Bool.not_eq_true', Bool.not_eq_false', decide_eq_true_eq, decide_eq_false_iff_not, Decidable.not_not] at hg; omega)))) ?_
     refine nl ?_
     refine AWP.two (i := 3) (j := 13) (by kernel_rfl) rfl rfl ?_ ?_
     ·
      refine Y1 (Yv.loadBox rfl ag_79 (i := 0) rfl (E rfl rfl) rfl) ?_
      refine nl ?_
      refine AWP.one (i := 13) (by kernel_rfl) rfl ?_
      refine AWL.callAll rfl rfl (B rfl) rfl ce_34 (E rfl rfl) (evsC (E rfl rfl) (evsC (E rfl rfl) evs0)) (find34 b ds n hw1 hn (ds.opn.getD j default).name) ?_
      rintro t61 S61 ⟨rfl, rfl⟩
      rw [hfq]
      refine nl ?_
      refine AWP.one (i := 14) (by kernel_rfl) rfl ?_
      refine Y1 (Yv.indexRow (j := q) rfl ss_79 (i := 1) rfl (E rfl rfl) (E rfl rfl) (fun hg => by first | exact ⟨by omega, by omega⟩ | (simp only [Bool.or_eq_true, Bool.and_eq_true, Bool.or_eq_false_iff, Bool.and_eq_false_iff, Bool.not_eq_true', Bool.not_eq_false', decide_eq_true_eq, decide_eq_false_iff_not, Decidable.not_not] at hg; exact ⟨by omega, by omega⟩))) ?_
      refine nl ?_
      refine AWP.one (i := 15) (by kernel_rfl) rfl ?_
      refine Y1 (Yv.fieldEp rfl fo_93_1 (E rfl rfl)) ?_
      refine nl ?_
      refine AWP.one (i := 16) (by kernel_rfl) rfl ?_
      refine Y1 (Yv.loadEp rfl ag_71 (i := 1) rfl (E rfl rfl) (fun hg => fby_at (by first | omega | (simp only [Bool.or_eq_true, Bool.and_eq_true, Bool.or_eq_false_iff, Bool.and_eq_false_iff, Bool.not_eq_true', Bool.not_eq_false', decide_eq_true_eq, decide_eq_false_iff_not, Decidable.not_not] at hg; omega)))) ?_
      refine nl ?_
      refine AWP.one (i := 17) (by kernel_rfl) rfl ?_
      refine Y1 (Yv.assign rfl eV) ?_
      refine nl ?_
      refine AWP.done (by kernel_rfl) ?_
      exact ⟨(), trivial, (Sub.cons rfl rfl (Sub.cons rfl rfl (Sub.cons rfl rfl (Sub.cons rfl rfl Sub.nil)))), rfl⟩
     ·
      refine AWL.callAll rfl rfl (B rfl) rfl ce_34 (E rfl rfl) (evsC (E rfl rfl) (evsC (E rfl rfl) evs0)) (find34 b ds n hw1 hn (ds.opn.getD j default).name) ?_
      rintro t61 S61 ⟨rfl, rfl⟩
      rw [hfq]
      refine nl ?_
      refine AWP.one (i := 3) (by kernel_rfl) rfl ?_
      refine Y1 (Yv.loadBox rfl ag_79 (i := 0) rfl (E rfl rfl) rfl) ?_
      refine nl ?_
      refine AWP.one (i := 14) (by kernel_rfl) rfl ?_
      refine Y1 (Yv.indexRow (j := q) rfl ss_79 (i := 1) rfl (E rfl rfl) (E rfl rfl) (fun hg => by first | exact ⟨by omega, by omega⟩ | (simp only [Bool.or_eq_true, Bool.and_eq_true, Bool.or_eq_false_iff, Bool.and_eq_false_iff, Bool.not_eq_true', Bool.not_eq_false', decide_eq_true_eq, decide_eq_false_iff_not, Decidable.not_not] at hg; exact ⟨by omega, by omega⟩))) ?_
      refine nl ?_
      refine AWP.one (i := 15) (by kernel_rfl) rfl ?_
      refine Y1 (Yv.fieldEp rfl fo_93_1 (E rfl rfl)) ?_
      refine nl ?_
      refine AWP.one (i := 16) (by kernel_rfl) rfl ?_
      refine Y1 (Yv.loadEp rfl ag_71 (i := 1) rfl (E rfl rfl) (fun hg => fby_at (by first | omega | (simp only [Bool.or_eq_true, Bool.and_eq_true, Bool.or_eq_false_iff, Bool.and_eq_false_iff, Bool.not_eq_true', Bool.not_eq_false', decide_eq_true_eq, decide_eq_false_iff_not, Decidable.not_not] at hg; omega)))) ?_
      refine nl ?_
      refine AWP.one (i := 17) (by kernel_rfl) rfl ?_
      refine Y1 (Yv.assign rfl eV) ?_
      refine nl ?_
      refine AWP.done (by kernel_rfl) ?_
      exact ⟨(), trivial, (Sub.cons rfl rfl (Sub.cons rfl rfl (Sub.cons rfl rfl (Sub.cons rfl rfl Sub.nil)))), rfl⟩
  ·
   rintro _ hmid
   refine AW.rseq ?_
   refine Y1 (Yv.assign rfl eV) ?_
   refine nl ?_
   refine AW.rowNil 5 1 ?_
   refine AW.perm (List.perm_append_singleton _ _).symm ?_
   refine AW.seq ?_
   refine AW.block ?_
   refine AW.loop3 (fun (k : Nat) (A : Option Addr) (c : Nat) => [(0, true, wp b), (1, true, .v (.int .i64 (j : Int))), (2, true, .v (.int .u64 (N : Int))), (11, true, .v (.slice (ds.files.getD q default).A (ds.files.getD q default).bytes.length (ds.files.getD q default).c)), (12, true, .v (.slice A k c))]) (fun (k : Nat) (A : Option Addr) (c : Nat) => (.row A k c 5 1 ((((ds.files.getD q default).bytes.drop (ds.opn.getD j default).place).take k).map u8) :: DSp b ds j ((ds.opn.getD j default).place + k))) (fun (k : Nat) (A : Option Addr) (c : Nat) => (ds.opn.getD j default).place + k ≤ max (ds.opn.getD j default).place (ds.files.getD q default).bytes.length ∧ k ≤ N) (fun (k : Nat) (A : Option Addr) (c : Nat) => N - k) 0 none 0 ?_ ?_ ?_ ?_
   · exact ⟨Nat.le_max_left _ _, Nat.zero_le _⟩
   · exact (Sub.cons rfl rfl (Sub.cons rfl rfl (Sub.cons rfl rfl (Sub.cons rfl rfl (Sub.cons rfl rfl Sub.nil)))))
   · exact congrArg (fun z => _ :: z) (dsp_self hjl).symm
   ·
    intro k A c hinv
    obtain ⟨hk1, hk2⟩ := hinv
    refine AW.seq ?_
    refine AW.rseq ?_
    refine Y1 (Yv.move rfl eV) ?_
    refine Y1 (Yv.nilChk rfl eV) ?_
    refine Y1 (Yv.fieldBox rfl fo_82_2 eV) ?_
    refine Y1 (Yv.loadBox rfl ag_80 (i := 1) rfl (E rfl rfl) rfl) ?_
    refine Y1 (Yv.move rfl eV) ?_
    refine Y1 (Yv.indexRow (j := j) rfl ss_80 (i := 3) rfl (E rfl rfl) (E rfl rfl) (fun hg => ⟨rfl, by show j < (ds.opn.set j _).length; rw [List.length_set]; exact hjl⟩)) ?_
    refine Y1 (Yv.fieldEp rfl fo_86_2 (E rfl rfl)) ?_
    refine Y1 (Yv.loadEp rfl ag_3 (i := 3) rfl (E rfl rfl) (fun hg => dpl_set (by omega))) ?_
    refine Y1 (Yv.move rfl eV) ?_
    refine Y1 (Yv.lenV rfl so_71 (E rfl rfl)) ?_
    refine Y1 (Yv.lss rfl eV eV) ?_
    refine Y1 (Yv.move rfl eV) ?_
    refine AWL.ygT rfl rfl rfl rfl (B rfl) (Yv.move rfl (E rfl rfl)) ?_
    refine AWL.ygT rfl rfl rfl rfl (B rfl) (Yv.lenV rfl so_71 (Eg rfl rfl id)) ?_
    refine AWL.ygT rfl rfl rfl rfl (B rfl) (Yv.convN_u64 rfl Try.underlying3 kd_51 (Eg rfl rfl id) (fun hg => by first | omega | (simp only [Bool.and_eq_true, Bool.or_eq_false_iff, Bool.not_eq_true', Bool.not_eq_false', decide_eq_true_eq, decide_eq_false_iff_not] at hg; omega))) ?_
    refine AWL.ygT rfl rfl rfl rfl (B rfl) (Yv.move rfl (E rfl rfl)) ?_
    refine AWL.ygT rfl rfl rfl rfl (B rfl) (Yv.lss rfl (Eg rfl rfl id) (Eg rfl rfl id)) ?_
    refine Y1 (Yv.pickAnd rfl (E rfl rfl) (Eg rfl rfl id)) ?_
    refine nl ?_
    refine AW.cond rfl (fun h3t => ?_) (fun h3f => ?_)
    ·
     try replace h3t := of_decide_eq_true h3t
     simp only [Bool.or_eq_true, Bool.and_eq_true, Bool.or_eq_false_iff, Bool.and_eq_false_iff, Bool.not_eq_true', Bool.not_eq_false', decide_eq_true_eq, decide_eq_false_iff_not, Decidable.not_not] at h3t
     have h3p : (((ds.opn.getD j default).place + k : Nat) : Int) < ((ds.files.getD q default).bytes.length : Int) := h3t.1
     have hlt : (ds.opn.getD j default).place + k < (ds.files.getD q default).bytes.length := by omega
     refine AW.skip ?_
     refine AW.block ?_
     refine AW.rseq ?_
     refine Y1 (Yv.move rfl eV) ?_
     refine Y1 (Yv.move rfl eV) ?_
     refine Y1 (Yv.move rfl eV) ?_
     refine Y1 (Yv.nilChk rfl eV) ?_
     refine Y1 (Yv.fieldBox rfl fo_82_2 eV) ?_
     refine Y1 (Yv.loadBox rfl ag_80 (i := 1) rfl (E rfl rfl) rfl) ?_
     refine Y1 (Yv.move rfl eV) ?_
     refine Y1 (Yv.indexRow (j := j) rfl ss_80 (i := 3) rfl (E rfl rfl) (E rfl rfl) (fun hg => ⟨rfl, by show j < (ds.opn.set j _).length; rw [List.length_set]; exact hjl⟩)) ?_
     refine Y1 (Yv.fieldEp rfl fo_86_2 (E rfl rfl)) ?_
     refine Y1 (Yv.loadEp rfl ag_3 (i := 3) rfl (E rfl rfl) (fun hg => dpl_set (by omega))) ?_
     refine Y1 (Yv.indexRow (i := q + 5) (j := (ds.opn.getD j default).place + k) rfl ss_71 (dfile_rowp (b := b) hq) (E rfl rfl) (E rfl rfl) (fun hg => ⟨rfl, by omega⟩)) ?_
     refine Y1 (Yv.loadEp (i := q + 5) rfl ag_5 (dfile_rowp (b := b) hq) (E rfl rfl) (fun hg => byte_at (by omega))) ?_
     refine AWL.buildSlice1 rfl rfl (B rfl) rfl el_71 rfl (evsC (E rfl rfl) evs0) (Nat.le_of_ble_eq_true rfl) rfl rfl ?_
     refine AWL.appendRow (i := 0) rfl rfl (B rfl) rfl el_71 (B rfl) rfl (E rfl rfl) (SrcT.sl so_71 (B rfl) (E rfl rfl) rfl) (by unfold maxLen; omega) (by omega) (fun A96 c96 => ?_)
     refine Y1 (Yv.assign rfl eV) ?_
     refine nl ?_
     refine AW.eqS (S' := .row A96 (k + 1) c96 5 1 ((((ds.files.getD q default).bytes.drop (ds.opn.getD j default).place).take (k + 1)).map u8) :: DSp b ds j ((ds.opn.getD j default).place + k)) (by
       rw [← take_step hlt]
       rfl) ?_
     refine AW.region ?_
     refine Y1 (Yv.move rfl eV) ?_
     refine Y1 (Yv.nilChk rfl eV) ?_
     refine Y1 (Yv.fieldBox rfl fo_82_2 eV) ?_
     refine Y1 (Yv.loadBox rfl ag_80 (i := 1) rfl (E rfl rfl) rfl) ?_
     refine Y1 (Yv.move rfl eV) ?_
     refine Y1 (Yv.indexRow (j := j) rfl ss_80 (i := 3) rfl (E rfl rfl) (E rfl rfl) (fun hg => ⟨rfl, by show j < (ds.opn.set j _).length; rw [List.length_set]; exact hjl⟩)) ?_
     refine Y1 (Yv.fieldEp rfl fo_86_2 (E rfl rfl)) ?_
     refine Y1 (Yv.loadEp rfl ag_3 (i := 3) rfl (E rfl rfl) (fun hg => dpl_set (by omega))) ?_
     refine Y1 (Yv.addN_i64 rfl (E rfl rfl) (E rfl rfl) (fun hg => by omega)) ?_
     refine Y1 (Yv.indexRow (j := j) rfl ss_80 (i := 3) rfl (E rfl rfl) (E rfl rfl) (fun hg => ⟨rfl, by show j < (ds.opn.set j _).length; rw [List.length_set]; exact hjl⟩)) ?_
     refine Y1 (Yv.fieldEp rfl fo_86_2 (E rfl rfl)) ?_
     refine AWL.storeEp1 (i := 3) rfl rfl rfl ag_3 rfl (E rfl rfl) (E rfl rfl) rfl rfl (by rw [len_desc, List.length_set]; omega) ?_
     refine nl ?_
     refine ⟨k + 1, A96, c96, ⟨by omega, by omega⟩, by omega, (Sub.cons rfl rfl (Sub.cons rfl rfl (Sub.cons rfl rfl (Sub.cons rfl rfl (Sub.cons rfl (by simp) Sub.nil))))), ?_⟩
     show _ = _ :: DSp b ds j ((ds.opn.getD j default).place + k + 1)
     rw [← dsp_step hjl]
     rfl
    try replace h3f := of_decide_eq_false h3f
    simp only [Bool.or_eq_true, Bool.and_eq_true, Bool.or_eq_false_iff, Bool.and_eq_false_iff, Bool.not_eq_true', Bool.not_eq_false', decide_eq_true_eq, decide_eq_false_iff_not, Decidable.not_not] at h3f
    have h3f : ¬ (((ds.opn.getD j default).place + k : Nat) : Int) < ((ds.files.getD q default).bytes.length : Int) ∨ ¬ (k : Int) < (N : Int) := h3f
    refine AW.exit ?_
    refine AW.rseq ?_
    refine Y1 (Yv.move rfl eV) ?_
    refine Y1 (Yv.bytesStrRow (i := 0) rfl by_71 st_9 rfl (E rfl rfl)) ?_
    refine Y1 (Yv.move rfl eV) ?_
    refine Y1 (Yv.lenV rfl so_71 (E rfl rfl)) ?_
    refine Y1 (Yv.assign rfl eV) ?_
    refine Y1 (Yv.assign rfl eV) ?_
    refine nl ?_
    refine AW.dropAt 0 ?_
    refine AW.ret (retI (.tmp rfl (.tmp rfl .nil)) ?_)
    have hkl : k ≤ ((ds.files.getD q default).bytes.drop (ds.opn.getD j default).place).length := by rw [List.length_drop]; omega
    have ek : ((ds.files.getD q default).bytes.drop (ds.opn.getD j default).place).take N = ((ds.files.getD q default).bytes.drop (ds.opn.getD j default).place).take k := by
      by_cases hN : N = k
      · rw [hN]
      · rw [List.take_of_length_le (by rw [List.length_drop]; omega), List.take_of_length_le (by rw [List.length_drop]; omega)]
    rw [hrf.1, hrf.2, ek, List.length_take, Nat.min_eq_left hkl]
    exact ⟨rfl, rfl⟩

end Go.Proofs.Ytmiggpnkicdijaa

namespace Go.Proofs.Ytmiggpnkicdijaa
open Go Go.RowKit
set_option linter.unusedSimpArgs false
set_option linter.unusedVariables false
/-- The document's world while a file is written. -/
def dsW (ds : DS) (j q : Nat) (B : List UInt8) (A : Option Addr) (c p : Nat) : DS :=
  { ds with files := ds.files.set q ⟨(ds.files.getD q default).name, B, A, c⟩, opn := ds.opn.set j (atP (ds.opn.getD j default) p) }
theorem file_self {l : List FileR} {q : Nat} (h : q < l.length) : l.set q ⟨(l.getD q default).name, (l.getD q default).bytes, (l.getD q default).A, (l.getD q default).c⟩ = l := set_getD h
theorem dsw_self {ds : DS} {j q : Nat} (hj : j < ds.opn.length) (hq : q < ds.files.length) : dsW ds j q (ds.files.getD q default).bytes (ds.files.getD q default).A (ds.files.getD q default).c (ds.opn.getD j default).place = ds := by
  unfold dsW
  rw [atP_self, set_getD hj, file_self hq]
theorem fby_set {l : List FileR} {q : Nat} {f : FileR} (h : q < l.length) : ((l.set q f).flatMap fileCells)[q * 2 + 1]? = some (.v (.slice f.A f.bytes.length f.c)) := by
  rw [fby_at (by rw [List.length_set]; exact h), getD_set h]
theorem dsw_row {b j q : Nat} {ds : DS} {B : List UInt8} {A : Option Addr} {c p : Nat} (hq : q < ds.files.length) : (DSt b (dsW ds j q B A c p))[q + 4]? = some (.row A B.length c 5 1 (B.map u8)) := by
  rw [dfile_row (by show q < (ds.files.set q _).length; rw [List.length_set]; exact hq)]
  show some (fileRow ((ds.files.set q _).getD q default)) = _
  rw [getD_set hq]
  rfl
theorem dst_setrow {b q : Nat} {ds : DS} (r : Ent) : (DSt b ds).set (q + 4) r = .box b 82 (dCells ds) :: .row ds.lA ds.files.length ds.lc 93 2 (ds.files.flatMap fileCells) :: .row ds.dA ds.opn.length ds.dc 86 3 (ds.opn.flatMap descCells) :: .row ds.tA ds.trace.length ds.tc 36 3 (ds.trace.flatMap evCells) :: (ds.files.map fileRow).set q r := rfl
theorem dsw_byte {b j q i : Nat} {ds : DS} {B : List UInt8} {A : Option Addr} {c p : Nat} (x : UInt8) (hq : q < ds.files.length) (hi : i < B.length) :
    (DSt b (dsW ds j q B A c p)).set (q + 4) (.row A B.length c 5 1 ((B.map u8).set (i * 1) (u8 x))) = DSt b (dsW ds j q (B.set i x) A c p) := by
  rw [dst_setrow, Nat.mul_one]
  have e1 : ((dsW ds j q B A c p).files.map fileRow).set q (.row A B.length c 5 1 ((B.map u8).set i (u8 x))) = (dsW ds j q (B.set i x) A c p).files.map fileRow := by
    unfold dsW
    simp only
    rw [List.map_set, List.map_set, List.set_set]
    congr 1
    unfold fileRow
    simp only [List.length_set, List.map_set]
  have e2 : (dsW ds j q (B.set i x) A c p).files.flatMap fileCells = (dsW ds j q B A c p).files.flatMap fileCells := by
    unfold dsW
    simp only
    have a1 := fset_all (l := ds.files) (j := q) hq ⟨(ds.files.getD q default).name, B, A, c⟩
    have a2 := fset_all (l := ds.files) (j := q) hq ⟨(ds.files.getD q default).name, B.set i x, A, c⟩
    rw [← a1, ← a2]
    unfold fileCells
    simp only [List.length_set]
  rw [e1]
  unfold DSt
  rw [e2]
  unfold dsW dCells
  simp only [List.length_set]
theorem dsw_grow {b j q : Nat} {ds : DS} {B : List UInt8} {A A' : Option Addr} {c c' p : Nat} (hq : q < ds.files.length) :
    ((DSt b (dsW ds j q B A c p)).set (q + 4) (.row A' (B.length + 1) c' 5 1 (B.map u8 ++ [.v (.int .u8 0)]))).set 1 (.row ds.lA (ds.files.set q ⟨(ds.files.getD q default).name, B, A, c⟩).length ds.lc 93 2 (((ds.files.set q ⟨(ds.files.getD q default).name, B, A, c⟩).flatMap fileCells).set (q * 2 + 1) (.v (.slice A' (B.length + 1) c')))) = DSt b (dsW ds j q (B ++ [0]) A' c' p) := by
  rw [dst_setrow]
  have e0 := fset_bytes (l := ds.files.set q ⟨(ds.files.getD q default).name, B, A, c⟩) (j := q) (by rw [List.length_set]; exact hq) A' (B ++ [0]) c'
  simp only [getD_set hq, List.set_set] at e0
  have e1 : ((dsW ds j q B A c p).files.map fileRow).set q (.row A' (B.length + 1) c' 5 1 (B.map u8 ++ [.v (.int .u8 0)])) = (dsW ds j q (B ++ [0]) A' c' p).files.map fileRow := by
    unfold dsW
    simp only
    rw [List.map_set, List.map_set, List.set_set]
    congr 1
    unfold fileRow
    simp only [List.length_append, List.map_append]
    rfl
  rw [e1]
  rw [List.length_append] at e0
  show _ :: Ent.row _ _ _ _ _ (((ds.files.set q ⟨(ds.files.getD q default).name, B, A, c⟩).flatMap fileCells).set (q * 2 + 1) (.v (.slice A' (B.length + 1) c'))) :: _ = _
  rw [show B.length + 1 = B.length + [(0 : UInt8)].length from rfl, e0]
  unfold DSt dsW dCells
  simp only [List.length_set]
theorem dsw_place {b j q : Nat} {ds : DS} {B : List UInt8} {A : Option Addr} {c p : Nat} (hj : j < ds.opn.length) :
    (DSt b (dsW ds j q B A c p)).set 2 (.row ds.dA (ds.opn.set j (atP (ds.opn.getD j default) p)).length ds.dc 86 3 (((ds.opn.set j (atP (ds.opn.getD j default) p)).flatMap descCells).set (j * 3 + 2) (.v (.int .i64 ((p : Int) + 1))))) = DSt b (dsW ds j q B A c (p + 1)) := by
  have e := dset_place (l := ds.opn.set j (atP (ds.opn.getD j default) p)) (j := j) (by rw [List.length_set]; exact hj) (p + 1)
  simp only [getD_set hj, List.set_set] at e
  rw [show ((p : Int) + 1) = ((p + 1 : Nat) : Int) by omega, e]
  unfold DSt dsW dCells
  simp only [List.length_set]
  rfl
theorem padTo_succ {B : List UInt8} {m : Nat} (h : B.length ≤ m) : padTo B m ++ [0] = padTo B (m + 1) := by
  unfold padTo
  rw [show m + 1 - B.length = (m - B.length) + 1 by omega, List.replicate_succ', List.append_assoc]
theorem padTo_at {B : List UInt8} {m : Nat} (h : B.length ≤ m) : (padTo B m).length = m := by
  rw [padTo_len]
  omega
theorem padTo_out {B : List UInt8} {m p : Nat} (h1 : B.length ≤ m) (h2 : m ≤ p + 1 ∨ m = B.length) (h3 : p < m) : padTo B m = padTo B (p + 1) := by
  rcases h2 with h | h
  · rw [show m = p + 1 by omega]
  · rw [padTo_id (by omega), padTo_id (by omega)]
theorem take_c {s : List UInt8} {k : Nat} (h : k < s.length) : s.take (k + 1) = s.take k ++ [s.getD k 0] := by
  rw [List.take_add_one, List.getElem?_eq_getElem h, List.getD_eq_getElem?_getD, List.getElem?_eq_getElem h]
  rfl
theorem take_cl {s : List UInt8} {k : Nat} (h : k ≤ s.length) : (s.take k).length = k := by
  rw [List.length_take]
  omega
theorem wr_le {l : List UInt8} {p : Nat} {s : List UInt8} : (wr l p s).length ≤ max l.length (p + s.length) := by
  rw [wr_len]
  split <;> omega
/-- What a write to a file gives. -/
theorem write_file {ds : DS} {j q : Nat} {s : List UInt8} {A tA : Option Addr} {c tc : Nat} (hj : j < ds.opn.length) (hk : kindP (j : Int) (pl ds) = 5) (hq : q < ds.files.length) (hn : (ds.files.getD q default).name = (ds.opn.getD j default).name)
    (hg : getP (ds.opn.getD j default).name (pl ds).files = some (ds.files.getD q default).bytes) (hp : ∀ x, putP (ds.opn.getD j default).name x (pl ds).files = (pl ds).files.set q ((ds.opn.getD j default).name, x)) :
    pl { dsW ds j q (wr (ds.files.getD q default).bytes (ds.opn.getD j default).place s) A c ((ds.opn.getD j default).place + s.length) with trace := sayF 3 (ds.opn.getD j default).name s ds.trace, tA := tA, tc := tc } = writeP (j : Int) s (pl ds) := by
  have e : ((pl ds).opn.getD (j : Int).toNat default) = ds.opn.getD j default := rfl
  have ef : (dsW ds j q (wr (ds.files.getD q default).bytes (ds.opn.getD j default).place s) A c ((ds.opn.getD j default).place + s.length)).files.map nb = (pl ds).files.set q ((ds.opn.getD j default).name, wr (ds.files.getD q default).bytes (ds.opn.getD j default).place s) := by
    unfold dsW pl
    simp only
    rw [List.map_set, ← hn]
    rfl
  unfold writeP
  rw [hk, if_neg (by decide), if_neg (by decide), if_pos rfl, e, hg]
  by_cases hs : s = []
  · rw [if_pos hs]
    subst hs
    unfold pl
    simp only
    rw [ef]
    unfold dsW
    simp only [List.length_nil, Nat.add_zero]
    rw [atP_self, set_getD hj, sayF_nil, wr_nil]
    have e2 : (pl ds).files.set q ((ds.opn.getD j default).name, (ds.files.getD q default).bytes) = (pl ds).files := by
      have hq' : q < (pl ds).files.length := by unfold pl; rw [List.length_map]; exact hq
      have e3 : (pl ds).files.getD q default = ((ds.opn.getD j default).name, (ds.files.getD q default).bytes) := by
        unfold pl
        rw [nb_at hq, ← hn]
        rfl
      rw [← e3, set_getD hq']
    rw [e2]
    rfl
  · rw [if_neg hs, hp]
    unfold pl
    simp only
    rw [ef, wr_cons hs]
    rfl
theorem pb_wrote {n j q : Nat} {ds : DS} {B : List UInt8} {A : Option Addr} {c p m : Nat} (h : PB n (pl ds)) (hm : n ≤ m) (hB : B.length ≤ m) (hp : p ≤ m) : PB m (pl (dsW ds j q B A c p)) := by
  refine ⟨?_, Nat.le_trans h.tr hm, fun e he => Nat.le_trans (h.txt e he) hm, fun f hf => ?_, fun d hd => ?_, Nat.le_trans h.sin hm, ?_⟩
  · show (ds.opn.set j _).length = 19
    rw [List.length_set]
    exact h.opn
  · have hf : f ∈ (ds.files.set q _).map nb := hf
    obtain ⟨x, hx, rfl⟩ := List.mem_map.1 hf
    rcases List.mem_or_eq_of_mem_set hx with hx | rfl
    · exact Nat.le_trans (h.fl (nb x) (List.mem_map_of_mem hx)) hm
    · exact hB
  · have hd : d ∈ ds.opn.set j _ := hd
    rcases List.mem_or_eq_of_mem_set hd with hd | rfl
    · exact Nat.le_trans (h.pl d hd) hm
    · exact hp
  · show ((ds.files.set q _).map nb).length ≤ m
    have := h.nf
    unfold pl at this
    rw [List.length_map] at this
    rw [List.length_map, List.length_set]
    omega
end Go.Proofs.Ytmiggpnkicdijaa

namespace Go.Proofs.Ytmiggpnkicdijaa
open Go Go.RowKit
set_option linter.unusedVariables false
set_option linter.unnecessarySimpa false
set_option linter.unusedSimpArgs false

set_option maxHeartbeats 4000000 in
theorem SysWrite40 (b : Nat) (ds : DS) (n : Nat) (hw : PB n (pl ds)) (hn : n ≤ 549755813888) (hnm : Named (pl ds)) (fd : Int) (s : List UInt8) (hs : s.length ≤ 549755813888) :
    ACalls Try.prog 40 [wp b, .v (.int .i64 fd), sv s] (DSt b ds) (fun t S => t = .v (.int .i64 (writeV fd s (pl ds))) ∧ ∃ ds', pl ds' = writeP fd s (pl ds) ∧ S = DSt b ds') := by
  have hw1 := hw
  obtain ⟨ho, htr, htx, hfl, hpl, hsi, hnf⟩ := hw
  have ho : ds.opn.length = 19 := ho
  have htr : ds.trace.length ≤ n := htr
  have hsi : ds.stdin.length ≤ n := hsi
  have hnf : ds.files.length ≤ n := by have h := hnf; unfold pl at h; rwa [List.length_map] at h
  have htxt : ∀ e ∈ ds.trace, e.text.length ≤ n := htx
  have hplx : ∀ d ∈ ds.opn, d.place ≤ n := hpl
  refine ACalls.intro Try.func40 rfl Try.ntmps40 (Nat.le_of_ble_eq_true rfl) rfl fun X w0 => ?_
  refine AW.rseq ?_
  refine Y1 (Yv.assign rfl eV) ?_
  refine nl ?_
  refine AW.seq ?_
  refine AW.rseq ?_
  refine Y1 (Yv.move rfl eV) ?_
  refine Y1 (Yv.move rfl eV) ?_
  refine AWL.callAll rfl rfl (B rfl) rfl ce_56 (E rfl rfl) (evsC (E rfl rfl) (evsC (E rfl rfl) evs0)) (kind56 b ds n hw1 (by omega) fd) ?_
  rintro t11 S11 ⟨rfl, rfl⟩
  refine nl ?_
  refine AW.block ?_
  refine AW.rseq ?_
  refine Y1 (Yv.eql rfl eV eV) ?_
  refine Y1 (Yv.assign rfl eV) ?_
  refine nl ?_
  refine AW.cond rfl (fun h0t => ?_) (fun h0f => ?_)
  ·
   try replace h0t := of_decide_eq_true h0t
   refine AW.region ?_
   refine Y1 (Yv.move rfl eV) ?_
   refine Y1 (Yv.move rfl eV) ?_
   refine AWL.callAll rfl rfl (B rfl) rfl ce_57 (E rfl rfl) (evsC (E rfl rfl) (evsC (E rfl rfl) (evsC (E rfl rfl) (evsC (E rfl rfl) evs0)))) (say57 b ds n hw1 (by omega) 1 [] s (by omega)) ?_
   rintro t16 S16 ⟨rfl, A16, c16, rfl⟩
   refine nl ?_
   refine AW.rseq ?_
   refine Y1 (Yv.move rfl eV) ?_
   refine Y1 (Yv.lenL rfl st_9 (E rfl rfl)) ?_
   refine Y1 (Yv.assign rfl eV) ?_
   refine nl ?_
   refine AW.ret (retI (.tmp rfl .nil) ?_)
   refine ⟨by unfold writeV; rw [if_pos (.inl h0t)]; rfl, { ds with trace := sayF 1 [] s ds.trace, tA := A16, tc := c16 }, ?_, rfl⟩
   unfold writeP
   rw [if_pos h0t]
   rfl
  try replace h0f := of_decide_eq_false h0f
  refine AW.rseq ?_
  refine Y1 (Yv.eql rfl eV eV) ?_
  refine Y1 (Yv.assign rfl eV) ?_
  refine nl ?_
  refine AW.cond rfl (fun h1t => ?_) (fun h1f => ?_)
  ·
   try replace h1t := of_decide_eq_true h1t
   refine AW.region ?_
   refine Y1 (Yv.move rfl eV) ?_
   refine Y1 (Yv.move rfl eV) ?_
   refine AWL.callAll rfl rfl (B rfl) rfl ce_57 (E rfl rfl) (evsC (E rfl rfl) (evsC (E rfl rfl) (evsC (E rfl rfl) (evsC (E rfl rfl) evs0)))) (say57 b ds n hw1 (by omega) 2 [] s (by omega)) ?_
   rintro t21 S21 ⟨rfl, A21, c21, rfl⟩
   refine nl ?_
   refine AW.rseq ?_
   refine Y1 (Yv.move rfl eV) ?_
   refine Y1 (Yv.lenL rfl st_9 (E rfl rfl)) ?_
   refine Y1 (Yv.assign rfl eV) ?_
   refine nl ?_
   refine AW.ret (retI (.tmp rfl .nil) ?_)
   refine ⟨by unfold writeV; rw [if_pos (.inr (.inl h1t))]; rfl, { ds with trace := sayF 2 [] s ds.trace, tA := A21, tc := c21 }, ?_, rfl⟩
   unfold writeP
   rw [if_neg h0f, if_pos h1t]
   rfl
  try replace h1f := of_decide_eq_false h1f
  refine AW.rseq ?_
  refine Y1 (Yv.eql rfl eV eV) ?_
  refine Y1 (Yv.assign rfl eV) ?_
  refine nl ?_
  refine AW.cond rfl (fun h2t => ?_) (fun h2f => ?_)
  ·
   try replace h2t := of_decide_eq_true h2t
   have hk5 : kindP fd (pl ds) = 5 := h2t
   obtain ⟨hf0, hf1, hfl', hmem, hke⟩ := kind_in hnm (fd := fd) (by rw [hk5]; decide)
   obtain ⟨j, rfl⟩ : ∃ j : Nat, fd = (j : Int) := ⟨fd.toNat, by omega⟩
   have hsome := hnm.2 _ hmem (.inr (by rw [← hke]; exact hk5))
   have hsome : (getP (ds.opn.getD j default).name (pl ds).files).isSome = true := hsome
   obtain ⟨q, hfq, hq, hqn, hqg, hqp⟩ := (findP_get (name := (ds.opn.getD j default).name) (l := (pl ds).files)).resolve_left (fun h => by rw [h.2] at hsome; cases hsome)
   have hq : q < ds.files.length := by have h := hq; unfold pl at h; rwa [List.length_map] at h
   have hqn : (ds.files.getD q default).name = (ds.opn.getD j default).name := by have h := hqn; unfold pl at h; rwa [nb_at hq] at h
   have hqg : getP (ds.opn.getD j default).name (pl ds).files = some (ds.files.getD q default).bytes := by
     rw [hqg]
     unfold pl
     rw [nb_at hq]
     rfl
   have hjl : j < ds.opn.length := by omega
   have hpj : (ds.opn.getD j default).place ≤ n := hplx _ (getD_mem' hjl)
   have hfb : (ds.files.getD q default).bytes.length ≤ n := hfl (nb (ds.files.getD q default)) (List.mem_map_of_mem (getD_mem' hq))
   refine AW.rseq ?_
   refine Y1 (Yv.move rfl eV) ?_
   refine Y1 (Yv.move rfl eV) ?_
   refine Y1 (Yv.nilChk rfl eV) ?_
   refine Y1 (Yv.fieldBox rfl fo_82_2 eV) ?_
   refine Y1 (Yv.loadBox rfl ag_80 (i := 0) rfl (E rfl rfl) rfl) ?_
   refine Y1 (Yv.move rfl eV) ?_
   refine Y1 (Yv.indexRow (j := j) rfl ss_80 (i := 2) rfl (E rfl rfl) (E rfl rfl) (fun hg => by first | exact ⟨by omega, by omega⟩ | (simp only [Bool.or_eq_true, Bool.and_eq_true, Bool.or_eq_false_iff, Bool.and_eq_false_iff, Bool.not_eq_true', Bool.not_eq_false', decide_eq_true_eq, decide_eq_false_iff_not, Decidable.not_not] at hg; exact ⟨by omega, by omega⟩))) ?_
   refine Y1 (Yv.fieldEp rfl fo_86_1 (E rfl rfl)) ?_
   refine Y1 (Yv.loadEp rfl ag_9 (i := 2) rfl (E rfl rfl) (fun hg => dnm_at (by first | omega | (simp only [Bool.or_eq_true, Bool.and_eq_true, Bool.or_eq_false_iff, Bool.and_eq_false_iff, Bool.not_eq_true', Bool.not_eq_false', decide_eq_true_eq, decide_eq_false_iff_not, Decidable.not_not] at hg; omega)))) ?_
   refine AWL.callAll rfl rfl (B rfl) rfl ce_34 (E rfl rfl) (evsC (E rfl rfl) (evsC (E rfl rfl) evs0)) (find34 b ds n hw1 (by omega) (ds.opn.getD j default).name) ?_
   rintro t33 S33 ⟨rfl, rfl⟩
   rw [hfq]
   refine Y1 (Yv.assign rfl eV) ?_
   refine nl ?_
   refine AW.seq ?_
   refine AW.rseq ?_
   refine Y1 (Yv.assign rfl eV) ?_
   refine nl ?_
   refine AW.block ?_
   refine AW.loop3 (fun (k : Nat) (A : Option Addr) (c : Nat) => [(0, true, wp b), (1, true, .v (.int .i64 (j : Int))), (2, true, sv s), (7, true, .v (.int .i64 (q : Int))), (8, true, .v (.int .i64 (k : Int)))]) (fun (k : Nat) (A : Option Addr) (c : Nat) => (DSt b (dsW ds j q (wr (ds.files.getD q default).bytes (ds.opn.getD j default).place (s.take k)) A c ((ds.opn.getD j default).place + k)))) (fun (k : Nat) (A : Option Addr) (c : Nat) => k ≤ s.length) (fun (k : Nat) (A : Option Addr) (c : Nat) => s.length - k) 0 ((ds.files.getD q default).A) ((ds.files.getD q default).c) ?_ ?_ ?_ ?_
   · exact Nat.zero_le _
   · exact (Sub.cons rfl rfl (Sub.cons rfl rfl (Sub.cons rfl rfl (Sub.cons rfl rfl (Sub.cons rfl rfl Sub.nil)))))
   · rw [List.take_zero, wr_nil, Nat.add_zero, dsw_self hjl hq]
   ·
    intro k A c hinv
    have htk := take_cl hinv
    have hwl := wr_le (l := (ds.files.getD q default).bytes) (p := (ds.opn.getD j default).place) (s := s.take k)
    rw [htk] at hwl
    refine AW.seq ?_
    refine AW.rseq ?_
    refine Y1 (Yv.move rfl eV) ?_
    refine Y1 (Yv.move rfl eV) ?_
    refine Y1 (Yv.lenL rfl st_9 (E rfl rfl)) ?_
    refine Y1 (Yv.lss rfl eV eV) ?_
    refine nl ?_
    refine AW.cond rfl (fun h3t => ?_) (fun h3f => ?_)
    ·
     try replace h3t := of_decide_eq_true h3t
     refine AW.skip ?_
     refine AW.seq ?_
     refine AW.block ?_
     refine AW.seq ?_
     refine AW.block ?_
     refine AW.loop3 (fun (m : Nat) (A1 : Option Addr) (c1 : Nat) => [(0, true, wp b), (1, true, .v (.int .i64 (j : Int))), (2, true, sv s), (7, true, .v (.int .i64 (q : Int))), (8, true, .v (.int .i64 (k : Int)))]) (fun (m : Nat) (A1 : Option Addr) (c1 : Nat) => (DSt b (dsW ds j q (padTo (wr (ds.files.getD q default).bytes (ds.opn.getD j default).place (s.take k)) m) A1 c1 ((ds.opn.getD j default).place + k)))) (fun (m : Nat) (A1 : Option Addr) (c1 : Nat) => (wr (ds.files.getD q default).bytes (ds.opn.getD j default).place (s.take k)).length ≤ m ∧ (m ≤ (ds.opn.getD j default).place + k + 1 ∨ m = (wr (ds.files.getD q default).bytes (ds.opn.getD j default).place (s.take k)).length)) (fun (m : Nat) (A1 : Option Addr) (c1 : Nat) => (ds.opn.getD j default).place + k + 1 - m) ((wr (ds.files.getD q default).bytes (ds.opn.getD j default).place (s.take k)).length) A c ?_ ?_ ?_ ?_
     · exact ⟨Nat.le_refl _, .inr rfl⟩
     · exact (Sub.cons rfl rfl (Sub.cons rfl rfl (Sub.cons rfl rfl (Sub.cons rfl rfl (Sub.cons rfl rfl Sub.nil)))))
     · rw [padTo_id (Nat.le_refl _)]
     ·
      intro m A1 c1 hinm
      obtain ⟨hm1, hm2⟩ := hinm
      have hpm := padTo_at hm1
      refine AW.seq ?_
      refine AW.rseqQ rfl (by kernel_rfl) ?_
      refine AWQ.y rfl rfl (B rfl) (Yv.move rfl (E rfl rfl)) ?_
      refine AWQ.y rfl rfl (B rfl) (Yv.nilChk rfl (E rfl rfl)) ?_
      refine AWQ.y rfl rfl (B rfl) (Yv.fieldBox rfl fo_82_0 (E rfl rfl)) ?_
      refine AWQ.y rfl rfl (B rfl) (Yv.loadBox rfl ag_79 (i := 0) rfl (E rfl rfl) rfl) ?_
      refine AWQ.y rfl rfl (B rfl) (Yv.move rfl (E rfl rfl)) ?_
      refine AWQ.y rfl rfl (B rfl) (Yv.indexRow (j := q) rfl ss_79 (i := 1) rfl (E rfl rfl) (E rfl rfl) (fun hg => ⟨rfl, by show q < (ds.files.set q _).length; rw [List.length_set]; exact hq⟩)) ?_
      refine AWQ.y rfl rfl (B rfl) (Yv.fieldEp rfl fo_93_1 (E rfl rfl)) ?_
      refine AWQ.y rfl rfl (B rfl) (Yv.loadEp rfl ag_71 (i := 1) rfl (E rfl rfl) (fun hg => fby_set hq)) ?_
      refine AWQ.y rfl rfl (B rfl) (Yv.lenV rfl so_71 (E rfl rfl)) ?_
      refine AWQ.y rfl rfl (B rfl) (Yv.move rfl (E rfl rfl)) ?_
      refine AWQ.y rfl rfl (B rfl) (Yv.nilChk rfl (E rfl rfl)) ?_
      refine AWQ.y rfl rfl (B rfl) (Yv.fieldBox rfl fo_82_2 (E rfl rfl)) ?_
      refine AWQ.y rfl rfl (B rfl) (Yv.loadBox rfl ag_80 (i := 0) rfl (E rfl rfl) rfl) ?_
      refine AWQ.y rfl rfl (B rfl) (Yv.move rfl (E rfl rfl)) ?_
      refine AWQ.y rfl rfl (B rfl) (Yv.indexRow (j := j) rfl ss_80 (i := 2) rfl (E rfl rfl) (E rfl rfl) (fun hg => ⟨rfl, by show j < (ds.opn.set j _).length; rw [List.length_set]; exact hjl⟩)) ?_
      refine AWQ.y rfl rfl (B rfl) (Yv.fieldEp rfl fo_86_2 (E rfl rfl)) ?_
      refine AWQ.y rfl rfl (B rfl) (Yv.loadEp rfl ag_3 (i := 2) rfl (E rfl rfl) (fun hg => dpl_set hjl)) ?_
      refine AWQ.y rfl rfl (B rfl) (Yv.leq rfl (E rfl rfl) (E rfl rfl)) ?_
      refine AWQ.nil ?_
      refine AW.cond rfl (fun h4t => ?_) (fun h4f => ?_)
      ·
       try replace h4t := of_decide_eq_true h4t
       have hle : m ≤ (ds.opn.getD j default).place + k := by
         have h : ((padTo (wr (ds.files.getD q default).bytes (ds.opn.getD j default).place (s.take k)) m).length : Int) ≤ (((ds.opn.getD j default).place + k : Nat) : Int) := h4t
         omega
       refine AW.skip ?_
       refine AW.block ?_
       refine AW.regionP rfl ?_
       refine AWP.take (i := 0) rfl (by kernel_rfl) (by kernel_rfl) (by kernel_rfl) rfl rfl (B rfl) (freeMove rfl (E rfl rfl)) ?_
       refine AWP.take (i := 1) rfl (by kernel_rfl) (by kernel_rfl) (by kernel_rfl) rfl rfl (B rfl) (freeNil rfl (E rfl rfl)) ?_
       refine AWP.take (i := 2) rfl (by kernel_rfl) (by kernel_rfl) (by kernel_rfl) rfl rfl (B rfl) (freeField rfl fo_82_0 (E rfl rfl)) ?_
       refine AWP.take (i := 4) rfl (by kernel_rfl) (by kernel_rfl) (by kernel_rfl) rfl rfl (B rfl) (freeMove rfl (E rfl rfl)) ?_
       refine AWP.take (i := 5) rfl (by kernel_rfl) (by kernel_rfl) (by kernel_rfl) rfl rfl (B rfl) (freeMove rfl (E rfl rfl)) ?_
       refine AWP.take (i := 6) rfl (by kernel_rfl) (by kernel_rfl) (by kernel_rfl) rfl rfl (B rfl) (freeNil rfl (E rfl rfl)) ?_
       refine AWP.take (i := 7) rfl (by kernel_rfl) (by kernel_rfl) (by kernel_rfl) rfl rfl (B rfl) (freeField rfl fo_82_0 (E rfl rfl)) ?_
       refine AWP.take (i := 9) rfl (by kernel_rfl) (by kernel_rfl) (by kernel_rfl) rfl rfl (B rfl) (freeMove rfl (E rfl rfl)) ?_
       refine AWP.three (i := 3) (j := 8) (k := 13) (by kernel_rfl) rfl rfl rfl ?_ ?_ ?_
       ·
        refine Y1 (Yv.loadBox rfl ag_79 (i := 0) rfl (E rfl rfl) rfl) ?_
        refine nl ?_
        refine AWP.two (i := 8) (j := 13) (by kernel_rfl) rfl rfl ?_ ?_
        ·
         refine Y1 (Yv.loadBox rfl ag_79 (i := 0) rfl (E rfl rfl) rfl) ?_
         refine nl ?_
         refine AWP.take (i := 10) rfl (by kernel_rfl) (by kernel_rfl) (by kernel_rfl) rfl rfl (B rfl) (freeIdxRow (i := 1) rfl ss_79 rfl (E rfl rfl) (E rfl rfl) ⟨rfl, by show q < (ds.files.set q _).length; rw [List.length_set]; exact hq⟩) ?_
         refine AWP.take (i := 11) rfl (by kernel_rfl) (by kernel_rfl) (by kernel_rfl) rfl rfl (B rfl) (freeFieldEp rfl fo_93_1 (E rfl rfl)) ?_
         refine AWP.two (i := 12) (j := 13) (by kernel_rfl) rfl rfl ?_ ?_
         ·
          refine Y1 (Yv.loadEp rfl ag_71 (i := 1) rfl (E rfl rfl) (fun hg => fby_set hq)) ?_
          refine nl ?_
          refine AWP.one (i := 13) (by kernel_rfl) rfl ?_
          refine AWL.buildSlice1 rfl rfl (B rfl) rfl el_71 rfl (evsC (E rfl rfl) evs0) (Nat.le_of_ble_eq_true rfl) rfl rfl ?_
          refine nl ?_
          refine AWP.one (i := 14) (by kernel_rfl) rfl ?_
          refine AWL.appendRow (i := q + 4) rfl rfl (B rfl) rfl el_71 (B rfl) (dsw_row hq) (E rfl rfl) (SrcT.sl so_71 (B rfl) (E rfl rfl) rfl) (by rw [hpm]; unfold maxLen; omega) (by rw [hpm]; omega) (fun A72 c72 => ?_)
          refine nl ?_
          refine AWP.one (i := 15) (by kernel_rfl) rfl ?_
          refine Y1 (Yv.indexRow (j := q) rfl ss_79 (i := 1) rfl (E rfl rfl) (E rfl rfl) (fun hg => ⟨rfl, by show q < (ds.files.set q _).length; rw [List.length_set]; exact hq⟩)) ?_
          refine nl ?_
          refine AWP.one (i := 16) (by kernel_rfl) rfl ?_
          refine Y1 (Yv.fieldEp rfl fo_93_1 (E rfl rfl)) ?_
          refine nl ?_
          refine AWP.one (i := 17) (by kernel_rfl) rfl ?_
          refine AWL.storeEp1 (i := 1) rfl rfl rfl ag_71 rfl (E rfl rfl) (E rfl rfl) rfl rfl (by rw [len_files]; show _ < (ds.files.set q _).length * 2; rw [List.length_set]; omega) ?_
          refine nl ?_
          refine AWP.done (by kernel_rfl) ?_
          refine ⟨m + 1, A72, c72, ⟨by omega, by omega⟩, by omega, (Sub.cons rfl rfl (Sub.cons rfl rfl (Sub.cons rfl rfl (Sub.cons rfl rfl (Sub.cons rfl rfl Sub.nil))))), ?_⟩
          rw [← padTo_succ hm1, ← dsw_grow hq]
          rfl
         ·
          refine AWL.buildSlice1 rfl rfl (B rfl) rfl el_71 rfl (evsC (E rfl rfl) evs0) (Nat.le_of_ble_eq_true rfl) rfl rfl ?_
          refine nl ?_
          refine AWP.one (i := 12) (by kernel_rfl) rfl ?_
          refine Y1 (Yv.loadEp rfl ag_71 (i := 1) rfl (E rfl rfl) (fun hg => fby_set hq)) ?_
          refine nl ?_
          refine AWP.one (i := 14) (by kernel_rfl) rfl ?_
          refine AWL.appendRow (i := q + 4) rfl rfl (B rfl) rfl el_71 (B rfl) (dsw_row hq) (E rfl rfl) (SrcT.sl so_71 (B rfl) (E rfl rfl) rfl) (by rw [hpm]; unfold maxLen; omega) (by rw [hpm]; omega) (fun A72 c72 => ?_)
          refine nl ?_
          refine AWP.one (i := 15) (by kernel_rfl) rfl ?_
          refine Y1 (Yv.indexRow (j := q) rfl ss_79 (i := 1) rfl (E rfl rfl) (E rfl rfl) (fun hg => ⟨rfl, by show q < (ds.files.set q _).length; rw [List.length_set]; exact hq⟩)) ?_
          refine nl ?_
          refine AWP.one (i := 16) (by kernel_rfl) rfl ?_
          refine Y1 (Yv.fieldEp rfl fo_93_1 (E rfl rfl)) ?_
          refine nl ?_
          refine AWP.one (i := 17) (by kernel_rfl) rfl ?_
          refine AWL.storeEp1 (i := 1) rfl rfl rfl ag_71 rfl (E rfl rfl) (E rfl rfl) rfl rfl (by rw [len_files]; show _ < (ds.files.set q _).length * 2; rw [List.length_set]; omega) ?_
          refine nl ?_
          refine AWP.done (by kernel_rfl) ?_
          refine ⟨m + 1, A72, c72, ⟨by omega, by omega⟩, by omega, (Sub.cons rfl rfl (Sub.cons rfl rfl (Sub.cons rfl rfl (Sub.cons rfl rfl (Sub.cons rfl rfl Sub.nil))))), ?_⟩
          rw [← padTo_succ hm1, ← dsw_grow hq]
          rfl
        ·
         refine AWL.buildSlice1 rfl rfl (B rfl) rfl el_71 rfl (evsC (E rfl rfl) evs0) (Nat.le_of_ble_eq_true rfl) rfl rfl ?_
         refine nl ?_
         refine AWP.one (i := 8) (by kernel_rfl) rfl ?_
         refine Y1 (Yv.loadBox rfl ag_79 (i := 0) rfl (E rfl rfl) rfl) ?_
         refine nl ?_
         refine AWP.one (i := 10) (by kernel_rfl) rfl ?_
         refine Y1 (Yv.indexRow (j := q) rfl ss_79 (i := 1) rfl (E rfl rfl) (E rfl rfl) (fun hg => ⟨rfl, by show q < (ds.files.set q _).length; rw [List.length_set]; exact hq⟩)) ?_
         refine nl ?_
         refine AWP.one (i := 11) (by kernel_rfl) rfl ?_
         refine Y1 (Yv.fieldEp rfl fo_93_1 (E rfl rfl)) ?_
         refine nl ?_
         refine AWP.one (i := 12) (by kernel_rfl) rfl ?_
         refine Y1 (Yv.loadEp rfl ag_71 (i := 1) rfl (E rfl rfl) (fun hg => fby_set hq)) ?_
         refine nl ?_
         refine AWP.one (i := 14) (by kernel_rfl) rfl ?_
         refine AWL.appendRow (i := q + 4) rfl rfl (B rfl) rfl el_71 (B rfl) (dsw_row hq) (E rfl rfl) (SrcT.sl so_71 (B rfl) (E rfl rfl) rfl) (by rw [hpm]; unfold maxLen; omega) (by rw [hpm]; omega) (fun A72 c72 => ?_)
         refine nl ?_
         refine AWP.one (i := 15) (by kernel_rfl) rfl ?_
         refine Y1 (Yv.indexRow (j := q) rfl ss_79 (i := 1) rfl (E rfl rfl) (E rfl rfl) (fun hg => ⟨rfl, by show q < (ds.files.set q _).length; rw [List.length_set]; exact hq⟩)) ?_
         refine nl ?_
         refine AWP.one (i := 16) (by kernel_rfl) rfl ?_
         refine Y1 (Yv.fieldEp rfl fo_93_1 (E rfl rfl)) ?_
         refine nl ?_
         refine AWP.one (i := 17) (by kernel_rfl) rfl ?_
         refine AWL.storeEp1 (i := 1) rfl rfl rfl ag_71 rfl (E rfl rfl) (E rfl rfl) rfl rfl (by rw [len_files]; show _ < (ds.files.set q _).length * 2; rw [List.length_set]; omega) ?_
         refine nl ?_
         refine AWP.done (by kernel_rfl) ?_
         refine ⟨m + 1, A72, c72, ⟨by omega, by omega⟩, by omega, (Sub.cons rfl rfl (Sub.cons rfl rfl (Sub.cons rfl rfl (Sub.cons rfl rfl (Sub.cons rfl rfl Sub.nil))))), ?_⟩
         rw [← padTo_succ hm1, ← dsw_grow hq]
         rfl
       ·
        refine Y1 (Yv.loadBox rfl ag_79 (i := 0) rfl (E rfl rfl) rfl) ?_
        refine nl ?_
        refine AWP.take (i := 10) rfl (by kernel_rfl) (by kernel_rfl) (by kernel_rfl) rfl rfl (B rfl) (freeIdxRow (i := 1) rfl ss_79 rfl (E rfl rfl) (E rfl rfl) ⟨rfl, by show q < (ds.files.set q _).length; rw [List.length_set]; exact hq⟩) ?_
        refine AWP.take (i := 11) rfl (by kernel_rfl) (by kernel_rfl) (by kernel_rfl) rfl rfl (B rfl) (freeFieldEp rfl fo_93_1 (E rfl rfl)) ?_
        refine AWP.three (i := 3) (j := 12) (k := 13) (by kernel_rfl) rfl rfl rfl ?_ ?_ ?_
        ·
         refine Y1 (Yv.loadBox rfl ag_79 (i := 0) rfl (E rfl rfl) rfl) ?_
         refine nl ?_
         refine AWP.two (i := 12) (j := 13) (by kernel_rfl) rfl rfl ?_ ?_
         ·
          refine Y1 (Yv.loadEp rfl ag_71 (i := 1) rfl (E rfl rfl) (fun hg => fby_set hq)) ?_
          refine nl ?_
          refine AWP.one (i := 13) (by kernel_rfl) rfl ?_
          refine AWL.buildSlice1 rfl rfl (B rfl) rfl el_71 rfl (evsC (E rfl rfl) evs0) (Nat.le_of_ble_eq_true rfl) rfl rfl ?_
          refine nl ?_
          refine AWP.one (i := 14) (by kernel_rfl) rfl ?_
          refine AWL.appendRow (i := q + 4) rfl rfl (B rfl) rfl el_71 (B rfl) (dsw_row hq) (E rfl rfl) (SrcT.sl so_71 (B rfl) (E rfl rfl) rfl) (by rw [hpm]; unfold maxLen; omega) (by rw [hpm]; omega) (fun A72 c72 => ?_)
          refine nl ?_
          refine AWP.one (i := 15) (by kernel_rfl) rfl ?_
          refine Y1 (Yv.indexRow (j := q) rfl ss_79 (i := 1) rfl (E rfl rfl) (E rfl rfl) (fun hg => ⟨rfl, by show q < (ds.files.set q _).length; rw [List.length_set]; exact hq⟩)) ?_
          refine nl ?_
          refine AWP.one (i := 16) (by kernel_rfl) rfl ?_
          refine Y1 (Yv.fieldEp rfl fo_93_1 (E rfl rfl)) ?_
          refine nl ?_
          refine AWP.one (i := 17) (by kernel_rfl) rfl ?_
          refine AWL.storeEp1 (i := 1) rfl rfl rfl ag_71 rfl (E rfl rfl) (E rfl rfl) rfl rfl (by rw [len_files]; show _ < (ds.files.set q _).length * 2; rw [List.length_set]; omega) ?_
          refine nl ?_
          refine AWP.done (by kernel_rfl) ?_
          refine ⟨m + 1, A72, c72, ⟨by omega, by omega⟩, by omega, (Sub.cons rfl rfl (Sub.cons rfl rfl (Sub.cons rfl rfl (Sub.cons rfl rfl (Sub.cons rfl rfl Sub.nil))))), ?_⟩
          rw [← padTo_succ hm1, ← dsw_grow hq]
          rfl
         ·
          refine AWL.buildSlice1 rfl rfl (B rfl) rfl el_71 rfl (evsC (E rfl rfl) evs0) (Nat.le_of_ble_eq_true rfl) rfl rfl ?_
          refine nl ?_
          refine AWP.one (i := 12) (by kernel_rfl) rfl ?_
          refine Y1 (Yv.loadEp rfl ag_71 (i := 1) rfl (E rfl rfl) (fun hg => fby_set hq)) ?_
          refine nl ?_
          refine AWP.one (i := 14) (by kernel_rfl) rfl ?_
          refine AWL.appendRow (i := q + 4) rfl rfl (B rfl) rfl el_71 (B rfl) (dsw_row hq) (E rfl rfl) (SrcT.sl so_71 (B rfl) (E rfl rfl) rfl) (by rw [hpm]; unfold maxLen; omega) (by rw [hpm]; omega) (fun A72 c72 => ?_)
          refine nl ?_
          refine AWP.one (i := 15) (by kernel_rfl) rfl ?_
          refine Y1 (Yv.indexRow (j := q) rfl ss_79 (i := 1) rfl (E rfl rfl) (E rfl rfl) (fun hg => ⟨rfl, by show q < (ds.files.set q _).length; rw [List.length_set]; exact hq⟩)) ?_
          refine nl ?_
          refine AWP.one (i := 16) (by kernel_rfl) rfl ?_
          refine Y1 (Yv.fieldEp rfl fo_93_1 (E rfl rfl)) ?_
          refine nl ?_
          refine AWP.one (i := 17) (by kernel_rfl) rfl ?_
          refine AWL.storeEp1 (i := 1) rfl rfl rfl ag_71 rfl (E rfl rfl) (E rfl rfl) rfl rfl (by rw [len_files]; show _ < (ds.files.set q _).length * 2; rw [List.length_set]; omega) ?_
          refine nl ?_
          refine AWP.done (by kernel_rfl) ?_
          refine ⟨m + 1, A72, c72, ⟨by omega, by omega⟩, by omega, (Sub.cons rfl rfl (Sub.cons rfl rfl (Sub.cons rfl rfl (Sub.cons rfl rfl (Sub.cons rfl rfl Sub.nil))))), ?_⟩
          rw [← padTo_succ hm1, ← dsw_grow hq]
          rfl
        ·
         refine Y1 (Yv.loadEp rfl ag_71 (i := 1) rfl (E rfl rfl) (fun hg => fby_set hq)) ?_
         refine nl ?_
         refine AWP.two (i := 3) (j := 13) (by kernel_rfl) rfl rfl ?_ ?_
         ·
          refine Y1 (Yv.loadBox rfl ag_79 (i := 0) rfl (E rfl rfl) rfl) ?_
          refine nl ?_
          refine AWP.one (i := 13) (by kernel_rfl) rfl ?_
          refine AWL.buildSlice1 rfl rfl (B rfl) rfl el_71 rfl (evsC (E rfl rfl) evs0) (Nat.le_of_ble_eq_true rfl) rfl rfl ?_
          refine nl ?_
          refine AWP.one (i := 14) (by kernel_rfl) rfl ?_
          refine AWL.appendRow (i := q + 4) rfl rfl (B rfl) rfl el_71 (B rfl) (dsw_row hq) (E rfl rfl) (SrcT.sl so_71 (B rfl) (E rfl rfl) rfl) (by rw [hpm]; unfold maxLen; omega) (by rw [hpm]; omega) (fun A72 c72 => ?_)
          refine nl ?_
          refine AWP.one (i := 15) (by kernel_rfl) rfl ?_
          refine Y1 (Yv.indexRow (j := q) rfl ss_79 (i := 1) rfl (E rfl rfl) (E rfl rfl) (fun hg => ⟨rfl, by show q < (ds.files.set q _).length; rw [List.length_set]; exact hq⟩)) ?_
          refine nl ?_
          refine AWP.one (i := 16) (by kernel_rfl) rfl ?_
          refine Y1 (Yv.fieldEp rfl fo_93_1 (E rfl rfl)) ?_
          refine nl ?_
          refine AWP.one (i := 17) (by kernel_rfl) rfl ?_
          refine AWL.storeEp1 (i := 1) rfl rfl rfl ag_71 rfl (E rfl rfl) (E rfl rfl) rfl rfl (by rw [len_files]; show _ < (ds.files.set q _).length * 2; rw [List.length_set]; omega) ?_
          refine nl ?_
          refine AWP.done (by kernel_rfl) ?_
          refine ⟨m + 1, A72, c72, ⟨by omega, by omega⟩, by omega, (Sub.cons rfl rfl (Sub.cons rfl rfl (Sub.cons rfl rfl (Sub.cons rfl rfl (Sub.cons rfl rfl Sub.nil))))), ?_⟩
          rw [← padTo_succ hm1, ← dsw_grow hq]
          rfl
         ·
          refine AWL.buildSlice1 rfl rfl (B rfl) rfl el_71 rfl (evsC (E rfl rfl) evs0) (Nat.le_of_ble_eq_true rfl) rfl rfl ?_
          refine nl ?_
          refine AWP.two (i := 3) (j := 14) (by kernel_rfl) rfl rfl ?_ ?_
          ·
           refine Y1 (Yv.loadBox rfl ag_79 (i := 0) rfl (E rfl rfl) rfl) ?_
           refine nl ?_
           refine AWP.one (i := 14) (by kernel_rfl) rfl ?_
           refine AWL.appendRow (i := q + 4) rfl rfl (B rfl) rfl el_71 (B rfl) (dsw_row hq) (E rfl rfl) (SrcT.sl so_71 (B rfl) (E rfl rfl) rfl) (by rw [hpm]; unfold maxLen; omega) (by rw [hpm]; omega) (fun A72 c72 => ?_)
           refine nl ?_
           refine AWP.one (i := 15) (by kernel_rfl) rfl ?_
           refine Y1 (Yv.indexRow (j := q) rfl ss_79 (i := 1) rfl (E rfl rfl) (E rfl rfl) (fun hg => ⟨rfl, by show q < (ds.files.set q _).length; rw [List.length_set]; exact hq⟩)) ?_
           refine nl ?_
           refine AWP.one (i := 16) (by kernel_rfl) rfl ?_
           refine Y1 (Yv.fieldEp rfl fo_93_1 (E rfl rfl)) ?_
           refine nl ?_
           refine AWP.one (i := 17) (by kernel_rfl) rfl ?_
           refine AWL.storeEp1 (i := 1) rfl rfl rfl ag_71 rfl (E rfl rfl) (E rfl rfl) rfl rfl (by rw [len_files]; show _ < (ds.files.set q _).length * 2; rw [List.length_set]; omega) ?_
           refine nl ?_
           refine AWP.done (by kernel_rfl) ?_
           refine ⟨m + 1, A72, c72, ⟨by omega, by omega⟩, by omega, (Sub.cons rfl rfl (Sub.cons rfl rfl (Sub.cons rfl rfl (Sub.cons rfl rfl (Sub.cons rfl rfl Sub.nil))))), ?_⟩
           rw [← padTo_succ hm1, ← dsw_grow hq]
           rfl
          ·
           refine AWL.appendRow (i := q + 4) rfl rfl (B rfl) rfl el_71 (B rfl) (dsw_row hq) (E rfl rfl) (SrcT.sl so_71 (B rfl) (E rfl rfl) rfl) (by rw [hpm]; unfold maxLen; omega) (by rw [hpm]; omega) (fun A72 c72 => ?_)
           refine nl ?_
           refine AWP.one (i := 3) (by kernel_rfl) rfl ?_
           refine Y1 (Yv.loadBox rfl ag_79 (i := 0) rfl (E rfl rfl) rfl) ?_
           refine nl ?_
           refine AWP.one (i := 15) (by kernel_rfl) rfl ?_
           refine Y1 (Yv.indexRow (j := q) rfl ss_79 (i := 1) rfl (E rfl rfl) (E rfl rfl) (fun hg => ⟨rfl, by show q < (ds.files.set q _).length; rw [List.length_set]; exact hq⟩)) ?_
           refine nl ?_
           refine AWP.one (i := 16) (by kernel_rfl) rfl ?_
           refine Y1 (Yv.fieldEp rfl fo_93_1 (E rfl rfl)) ?_
           refine nl ?_
           refine AWP.one (i := 17) (by kernel_rfl) rfl ?_
           refine AWL.storeEp1 (i := 1) rfl rfl rfl ag_71 rfl (E rfl rfl) (E rfl rfl) rfl rfl (by rw [len_files]; show _ < (ds.files.set q _).length * 2; rw [List.length_set]; omega) ?_
           refine nl ?_
           refine AWP.done (by kernel_rfl) ?_
           refine ⟨m + 1, A72, c72, ⟨by omega, by omega⟩, by omega, (Sub.cons rfl rfl (Sub.cons rfl rfl (Sub.cons rfl rfl (Sub.cons rfl rfl (Sub.cons rfl rfl Sub.nil))))), ?_⟩
           rw [← padTo_succ hm1, ← dsw_grow hq]
           rfl
        ·
         refine AWL.buildSlice1 rfl rfl (B rfl) rfl el_71 rfl (evsC (E rfl rfl) evs0) (Nat.le_of_ble_eq_true rfl) rfl rfl ?_
         refine nl ?_
         refine AWP.two (i := 3) (j := 12) (by kernel_rfl) rfl rfl ?_ ?_
         ·
          refine Y1 (Yv.loadBox rfl ag_79 (i := 0) rfl (E rfl rfl) rfl) ?_
          refine nl ?_
          refine AWP.one (i := 12) (by kernel_rfl) rfl ?_
          refine Y1 (Yv.loadEp rfl ag_71 (i := 1) rfl (E rfl rfl) (fun hg => fby_set hq)) ?_
          refine nl ?_
          refine AWP.one (i := 14) (by kernel_rfl) rfl ?_
          refine AWL.appendRow (i := q + 4) rfl rfl (B rfl) rfl el_71 (B rfl) (dsw_row hq) (E rfl rfl) (SrcT.sl so_71 (B rfl) (E rfl rfl) rfl) (by rw [hpm]; unfold maxLen; omega) (by rw [hpm]; omega) (fun A72 c72 => ?_)
          refine nl ?_
          refine AWP.one (i := 15) (by kernel_rfl) rfl ?_
          refine Y1 (Yv.indexRow (j := q) rfl ss_79 (i := 1) rfl (E rfl rfl) (E rfl rfl) (fun hg => ⟨rfl, by show q < (ds.files.set q _).length; rw [List.length_set]; exact hq⟩)) ?_
          refine nl ?_
          refine AWP.one (i := 16) (by kernel_rfl) rfl ?_
          refine Y1 (Yv.fieldEp rfl fo_93_1 (E rfl rfl)) ?_
          refine nl ?_
          refine AWP.one (i := 17) (by kernel_rfl) rfl ?_
          refine AWL.storeEp1 (i := 1) rfl rfl rfl ag_71 rfl (E rfl rfl) (E rfl rfl) rfl rfl (by rw [len_files]; show _ < (ds.files.set q _).length * 2; rw [List.length_set]; omega) ?_
          refine nl ?_
          refine AWP.done (by kernel_rfl) ?_
          refine ⟨m + 1, A72, c72, ⟨by omega, by omega⟩, by omega, (Sub.cons rfl rfl (Sub.cons rfl rfl (Sub.cons rfl rfl (Sub.cons rfl rfl (Sub.cons rfl rfl Sub.nil))))), ?_⟩
          rw [← padTo_succ hm1, ← dsw_grow hq]
          rfl
         ·
          refine Y1 (Yv.loadEp rfl ag_71 (i := 1) rfl (E rfl rfl) (fun hg => fby_set hq)) ?_
          refine nl ?_
          refine AWP.two (i := 3) (j := 14) (by kernel_rfl) rfl rfl ?_ ?_
          ·
           refine Y1 (Yv.loadBox rfl ag_79 (i := 0) rfl (E rfl rfl) rfl) ?_
           refine nl ?_
           refine AWP.one (i := 14) (by kernel_rfl) rfl ?_
           refine AWL.appendRow (i := q + 4) rfl rfl (B rfl) rfl el_71 (B rfl) (dsw_row hq) (E rfl rfl) (SrcT.sl so_71 (B rfl) (E rfl rfl) rfl) (by rw [hpm]; unfold maxLen; omega) (by rw [hpm]; omega) (fun A72 c72 => ?_)
           refine nl ?_
           refine AWP.one (i := 15) (by kernel_rfl) rfl ?_
           refine Y1 (Yv.indexRow (j := q) rfl ss_79 (i := 1) rfl (E rfl rfl) (E rfl rfl) (fun hg => ⟨rfl, by show q < (ds.files.set q _).length; rw [List.length_set]; exact hq⟩)) ?_
           refine nl ?_
           refine AWP.one (i := 16) (by kernel_rfl) rfl ?_
           refine Y1 (Yv.fieldEp rfl fo_93_1 (E rfl rfl)) ?_
           refine nl ?_
           refine AWP.one (i := 17) (by kernel_rfl) rfl ?_
           refine AWL.storeEp1 (i := 1) rfl rfl rfl ag_71 rfl (E rfl rfl) (E rfl rfl) rfl rfl (by rw [len_files]; show _ < (ds.files.set q _).length * 2; rw [List.length_set]; omega) ?_
           refine nl ?_
           refine AWP.done (by kernel_rfl) ?_
           refine ⟨m + 1, A72, c72, ⟨by omega, by omega⟩, by omega, (Sub.cons rfl rfl (Sub.cons rfl rfl (Sub.cons rfl rfl (Sub.cons rfl rfl (Sub.cons rfl rfl Sub.nil))))), ?_⟩
           rw [← padTo_succ hm1, ← dsw_grow hq]
           rfl
          ·
           refine AWL.appendRow (i := q + 4) rfl rfl (B rfl) rfl el_71 (B rfl) (dsw_row hq) (E rfl rfl) (SrcT.sl so_71 (B rfl) (E rfl rfl) rfl) (by rw [hpm]; unfold maxLen; omega) (by rw [hpm]; omega) (fun A72 c72 => ?_)
           refine nl ?_
           refine AWP.one (i := 3) (by kernel_rfl) rfl ?_
           refine Y1 (Yv.loadBox rfl ag_79 (i := 0) rfl (E rfl rfl) rfl) ?_
           refine nl ?_
           refine AWP.one (i := 15) (by kernel_rfl) rfl ?_
           refine Y1 (Yv.indexRow (j := q) rfl ss_79 (i := 1) rfl (E rfl rfl) (E rfl rfl) (fun hg => ⟨rfl, by show q < (ds.files.set q _).length; rw [List.length_set]; exact hq⟩)) ?_
           refine nl ?_
           refine AWP.one (i := 16) (by kernel_rfl) rfl ?_
           refine Y1 (Yv.fieldEp rfl fo_93_1 (E rfl rfl)) ?_
           refine nl ?_
           refine AWP.one (i := 17) (by kernel_rfl) rfl ?_
           refine AWL.storeEp1 (i := 1) rfl rfl rfl ag_71 rfl (E rfl rfl) (E rfl rfl) rfl rfl (by rw [len_files]; show _ < (ds.files.set q _).length * 2; rw [List.length_set]; omega) ?_
           refine nl ?_
           refine AWP.done (by kernel_rfl) ?_
           refine ⟨m + 1, A72, c72, ⟨by omega, by omega⟩, by omega, (Sub.cons rfl rfl (Sub.cons rfl rfl (Sub.cons rfl rfl (Sub.cons rfl rfl (Sub.cons rfl rfl Sub.nil))))), ?_⟩
           rw [← padTo_succ hm1, ← dsw_grow hq]
           rfl
       ·
        refine AWL.buildSlice1 rfl rfl (B rfl) rfl el_71 rfl (evsC (E rfl rfl) evs0) (Nat.le_of_ble_eq_true rfl) rfl rfl ?_
        refine nl ?_
        refine AWP.two (i := 3) (j := 8) (by kernel_rfl) rfl rfl ?_ ?_
        ·
         refine Y1 (Yv.loadBox rfl ag_79 (i := 0) rfl (E rfl rfl) rfl) ?_
         refine nl ?_
         refine AWP.one (i := 8) (by kernel_rfl) rfl ?_
         refine Y1 (Yv.loadBox rfl ag_79 (i := 0) rfl (E rfl rfl) rfl) ?_
         refine nl ?_
         refine AWP.one (i := 10) (by kernel_rfl) rfl ?_
         refine Y1 (Yv.indexRow (j := q) rfl ss_79 (i := 1) rfl (E rfl rfl) (E rfl rfl) (fun hg => ⟨rfl, by show q < (ds.files.set q _).length; rw [List.length_set]; exact hq⟩)) ?_
         refine nl ?_
         refine AWP.one (i := 11) (by kernel_rfl) rfl ?_
         refine Y1 (Yv.fieldEp rfl fo_93_1 (E rfl rfl)) ?_
         refine nl ?_
         refine AWP.one (i := 12) (by kernel_rfl) rfl ?_
         refine Y1 (Yv.loadEp rfl ag_71 (i := 1) rfl (E rfl rfl) (fun hg => fby_set hq)) ?_
         refine nl ?_
         refine AWP.one (i := 14) (by kernel_rfl) rfl ?_
         refine AWL.appendRow (i := q + 4) rfl rfl (B rfl) rfl el_71 (B rfl) (dsw_row hq) (E rfl rfl) (SrcT.sl so_71 (B rfl) (E rfl rfl) rfl) (by rw [hpm]; unfold maxLen; omega) (by rw [hpm]; omega) (fun A72 c72 => ?_)
         refine nl ?_
         refine AWP.one (i := 15) (by kernel_rfl) rfl ?_
         refine Y1 (Yv.indexRow (j := q) rfl ss_79 (i := 1) rfl (E rfl rfl) (E rfl rfl) (fun hg => ⟨rfl, by show q < (ds.files.set q _).length; rw [List.length_set]; exact hq⟩)) ?_
         refine nl ?_
         refine AWP.one (i := 16) (by kernel_rfl) rfl ?_
         refine Y1 (Yv.fieldEp rfl fo_93_1 (E rfl rfl)) ?_
         refine nl ?_
         refine AWP.one (i := 17) (by kernel_rfl) rfl ?_
         refine AWL.storeEp1 (i := 1) rfl rfl rfl ag_71 rfl (E rfl rfl) (E rfl rfl) rfl rfl (by rw [len_files]; show _ < (ds.files.set q _).length * 2; rw [List.length_set]; omega) ?_
         refine nl ?_
         refine AWP.done (by kernel_rfl) ?_
         refine ⟨m + 1, A72, c72, ⟨by omega, by omega⟩, by omega, (Sub.cons rfl rfl (Sub.cons rfl rfl (Sub.cons rfl rfl (Sub.cons rfl rfl (Sub.cons rfl rfl Sub.nil))))), ?_⟩
         rw [← padTo_succ hm1, ← dsw_grow hq]
         rfl
        ·
         refine Y1 (Yv.loadBox rfl ag_79 (i := 0) rfl (E rfl rfl) rfl) ?_
         refine nl ?_
         refine AWP.take (i := 10) rfl (by kernel_rfl) (by kernel_rfl) (by kernel_rfl) rfl rfl (B rfl) (freeIdxRow (i := 1) rfl ss_79 rfl (E rfl rfl) (E rfl rfl) ⟨rfl, by show q < (ds.files.set q _).length; rw [List.length_set]; exact hq⟩) ?_
         refine AWP.take (i := 11) rfl (by kernel_rfl) (by kernel_rfl) (by kernel_rfl) rfl rfl (B rfl) (freeFieldEp rfl fo_93_1 (E rfl rfl)) ?_
         refine AWP.two (i := 3) (j := 12) (by kernel_rfl) rfl rfl ?_ ?_
         ·
          refine Y1 (Yv.loadBox rfl ag_79 (i := 0) rfl (E rfl rfl) rfl) ?_
          refine nl ?_
          refine AWP.one (i := 12) (by kernel_rfl) rfl ?_
          refine Y1 (Yv.loadEp rfl ag_71 (i := 1) rfl (E rfl rfl) (fun hg => fby_set hq)) ?_
          refine nl ?_
          refine AWP.one (i := 14) (by kernel_rfl) rfl ?_
          refine AWL.appendRow (i := q + 4) rfl rfl (B rfl) rfl el_71 (B rfl) (dsw_row hq) (E rfl rfl) (SrcT.sl so_71 (B rfl) (E rfl rfl) rfl) (by rw [hpm]; unfold maxLen; omega) (by rw [hpm]; omega) (fun A72 c72 => ?_)
          refine nl ?_
          refine AWP.one (i := 15) (by kernel_rfl) rfl ?_
          refine Y1 (Yv.indexRow (j := q) rfl ss_79 (i := 1) rfl (E rfl rfl) (E rfl rfl) (fun hg => ⟨rfl, by show q < (ds.files.set q _).length; rw [List.length_set]; exact hq⟩)) ?_
          refine nl ?_
          refine AWP.one (i := 16) (by kernel_rfl) rfl ?_
          refine Y1 (Yv.fieldEp rfl fo_93_1 (E rfl rfl)) ?_
          refine nl ?_
          refine AWP.one (i := 17) (by kernel_rfl) rfl ?_
          refine AWL.storeEp1 (i := 1) rfl rfl rfl ag_71 rfl (E rfl rfl) (E rfl rfl) rfl rfl (by rw [len_files]; show _ < (ds.files.set q _).length * 2; rw [List.length_set]; omega) ?_
          refine nl ?_
          refine AWP.done (by kernel_rfl) ?_
          refine ⟨m + 1, A72, c72, ⟨by omega, by omega⟩, by omega, (Sub.cons rfl rfl (Sub.cons rfl rfl (Sub.cons rfl rfl (Sub.cons rfl rfl (Sub.cons rfl rfl Sub.nil))))), ?_⟩
          rw [← padTo_succ hm1, ← dsw_grow hq]
          rfl
         ·
          refine Y1 (Yv.loadEp rfl ag_71 (i := 1) rfl (E rfl rfl) (fun hg => fby_set hq)) ?_
          refine nl ?_
          refine AWP.two (i := 3) (j := 14) (by kernel_rfl) rfl rfl ?_ ?_
          ·
           refine Y1 (Yv.loadBox rfl ag_79 (i := 0) rfl (E rfl rfl) rfl) ?_
           refine nl ?_
           refine AWP.one (i := 14) (by kernel_rfl) rfl ?_
           refine AWL.appendRow (i := q + 4) rfl rfl (B rfl) rfl el_71 (B rfl) (dsw_row hq) (E rfl rfl) (SrcT.sl so_71 (B rfl) (E rfl rfl) rfl) (by rw [hpm]; unfold maxLen; omega) (by rw [hpm]; omega) (fun A72 c72 => ?_)
           refine nl ?_
           refine AWP.one (i := 15) (by kernel_rfl) rfl ?_
           refine Y1 (Yv.indexRow (j := q) rfl ss_79 (i := 1) rfl (E rfl rfl) (E rfl rfl) (fun hg => ⟨rfl, by show q < (ds.files.set q _).length; rw [List.length_set]; exact hq⟩)) ?_
           refine nl ?_
           refine AWP.one (i := 16) (by kernel_rfl) rfl ?_
           refine Y1 (Yv.fieldEp rfl fo_93_1 (E rfl rfl)) ?_
           refine nl ?_
           refine AWP.one (i := 17) (by kernel_rfl) rfl ?_
           refine AWL.storeEp1 (i := 1) rfl rfl rfl ag_71 rfl (E rfl rfl) (E rfl rfl) rfl rfl (by rw [len_files]; show _ < (ds.files.set q _).length * 2; rw [List.length_set]; omega) ?_
           refine nl ?_
           refine AWP.done (by kernel_rfl) ?_
           refine ⟨m + 1, A72, c72, ⟨by omega, by omega⟩, by omega, (Sub.cons rfl rfl (Sub.cons rfl rfl (Sub.cons rfl rfl (Sub.cons rfl rfl (Sub.cons rfl rfl Sub.nil))))), ?_⟩
           rw [← padTo_succ hm1, ← dsw_grow hq]
           rfl
          ·
           refine AWL.appendRow (i := q + 4) rfl rfl (B rfl) rfl el_71 (B rfl) (dsw_row hq) (E rfl rfl) (SrcT.sl so_71 (B rfl) (E rfl rfl) rfl) (by rw [hpm]; unfold maxLen; omega) (by rw [hpm]; omega) (fun A72 c72 => ?_)
           refine nl ?_
           refine AWP.one (i := 3) (by kernel_rfl) rfl ?_
           refine Y1 (Yv.loadBox rfl ag_79 (i := 0) rfl (E rfl rfl) rfl) ?_
           refine nl ?_
           refine AWP.one (i := 15) (by kernel_rfl) rfl ?_
           refine Y1 (Yv.indexRow (j := q) rfl ss_79 (i := 1) rfl (E rfl rfl) (E rfl rfl) (fun hg => ⟨rfl, by show q < (ds.files.set q _).length; rw [List.length_set]; exact hq⟩)) ?_
           refine nl ?_
           refine AWP.one (i := 16) (by kernel_rfl) rfl ?_
           refine Y1 (Yv.fieldEp rfl fo_93_1 (E rfl rfl)) ?_
           refine nl ?_
           refine AWP.one (i := 17) (by kernel_rfl) rfl ?_
           refine AWL.storeEp1 (i := 1) rfl rfl rfl ag_71 rfl (E rfl rfl) (E rfl rfl) rfl rfl (by rw [len_files]; show _ < (ds.files.set q _).length * 2; rw [List.length_set]; omega) ?_
           refine nl ?_
           refine AWP.done (by kernel_rfl) ?_
           refine ⟨m + 1, A72, c72, ⟨by omega, by omega⟩, by omega, (Sub.cons rfl rfl (Sub.cons rfl rfl (Sub.cons rfl rfl (Sub.cons rfl rfl (Sub.cons rfl rfl Sub.nil))))), ?_⟩
           rw [← padTo_succ hm1, ← dsw_grow hq]
           rfl
      try replace h4f := of_decide_eq_false h4f
      have hlt : (ds.opn.getD j default).place + k < m := by
        have h : ¬ ((padTo (wr (ds.files.getD q default).bytes (ds.opn.getD j default).place (s.take k)) m).length : Int) ≤ (((ds.opn.getD j default).place + k : Nat) : Int) := h4f
        omega
      refine AW.exit ?_
      rw [padTo_out hm1 hm2 hlt]
      have hpl1 : (ds.opn.getD j default).place + k < (padTo (wr (ds.files.getD q default).bytes (ds.opn.getD j default).place (s.take k)) ((ds.opn.getD j default).place + k + 1)).length := by rw [padTo_len]; omega
      refine AW.rseqP rfl ?_
      refine AWP.phase [true, true, true, true, true, true, true, true, true, true, true, true, true, true, true, true, true, true, true, true] 1 rfl (by kernel_rfl) (by kernel_rfl) ?_
      refine AWQ.y rfl rfl (B rfl) (Yv.move rfl (E rfl rfl)) ?_
      refine AWQ.y rfl rfl (B rfl) (Yv.nilChk rfl (E rfl rfl)) ?_
      refine AWQ.y rfl rfl (B rfl) (Yv.fieldBox rfl fo_82_0 (E rfl rfl)) ?_
      refine AWQ.y rfl rfl (B rfl) (Yv.loadBox rfl ag_79 (i := 0) rfl (E rfl rfl) rfl) ?_
      refine AWQ.y rfl rfl (B rfl) (Yv.move rfl (E rfl rfl)) ?_
      refine AWQ.y rfl rfl (B rfl) (Yv.indexRow (j := q) rfl ss_79 (i := 1) rfl (E rfl rfl) (E rfl rfl) (fun hg => ⟨rfl, by show q < (ds.files.set q _).length; rw [List.length_set]; exact hq⟩)) ?_
      refine AWQ.y rfl rfl (B rfl) (Yv.fieldEp rfl fo_93_1 (E rfl rfl)) ?_
      refine AWQ.y rfl rfl (B rfl) (Yv.loadEp rfl ag_71 (i := 1) rfl (E rfl rfl) (fun hg => fby_set hq)) ?_
      refine AWQ.y rfl rfl (B rfl) (Yv.move rfl (E rfl rfl)) ?_
      refine AWQ.y rfl rfl (B rfl) (Yv.nilChk rfl (E rfl rfl)) ?_
      refine AWQ.y rfl rfl (B rfl) (Yv.fieldBox rfl fo_82_2 (E rfl rfl)) ?_
      refine AWQ.y rfl rfl (B rfl) (Yv.loadBox rfl ag_80 (i := 0) rfl (E rfl rfl) rfl) ?_
      refine AWQ.y rfl rfl (B rfl) (Yv.move rfl (E rfl rfl)) ?_
      refine AWQ.y rfl rfl (B rfl) (Yv.indexRow (j := j) rfl ss_80 (i := 2) rfl (E rfl rfl) (E rfl rfl) (fun hg => ⟨rfl, by show j < (ds.opn.set j _).length; rw [List.length_set]; exact hjl⟩)) ?_
      refine AWQ.y rfl rfl (B rfl) (Yv.fieldEp rfl fo_86_2 (E rfl rfl)) ?_
      refine AWQ.y rfl rfl (B rfl) (Yv.loadEp rfl ag_3 (i := 2) rfl (E rfl rfl) (fun hg => dpl_set hjl)) ?_
      refine AWQ.y rfl rfl (B rfl) (Yv.move rfl (E rfl rfl)) ?_
      refine AWQ.y rfl rfl (B rfl) (Yv.move rfl (E rfl rfl)) ?_
      refine AWQ.y rfl rfl (B rfl) (Yv.indexL rfl st_9 (E rfl rfl) (E rfl rfl) (fun hg => ⟨rfl, by omega⟩)) ?_
      refine AWQ.y rfl rfl (B rfl) (Yv.indexRow (i := q + 4) (j := (ds.opn.getD j default).place + k) rfl ss_71 (dsw_row (b := b) hq) (E rfl rfl) (E rfl rfl) (fun hg => ⟨rfl, hpl1⟩)) ?_
      refine AWQ.nil ?_
      refine AWP.one (i := 20) (by kernel_rfl) rfl ?_
      refine AWL.storeEp1 (i := q + 4) rfl rfl rfl ag_5 (dsw_row (b := b) hq) (E rfl rfl) (E rfl rfl) rfl rfl (by rw [List.length_map, Nat.mul_one]; exact hpl1) ?_
      refine nl ?_
      refine AWP.done (by kernel_rfl) ?_
      refine AW.eqS (S' := (DSt b (dsW ds j q (wr (ds.files.getD q default).bytes (ds.opn.getD j default).place (s.take (k + 1))) A1 c1 ((ds.opn.getD j default).place + k)))) ?_ ?_
      · have htl := take_cl (s := s) (k := k) (by omega)
        have e := wr_step (ds.files.getD q default).bytes (ds.opn.getD j default).place (s.take k) (s.getD k 0)
        rw [htl] at e
        rw [take_c (by omega), ← e, ← dsw_byte _ hq hpl1]
      have hap : (atP (ds.opn.getD j default) ((ds.opn.getD j default).place + k)).place = (ds.opn.getD j default).place + k := rfl
      refine AW.region ?_
      refine Y1 (Yv.move rfl eV) ?_
      refine Y1 (Yv.nilChk rfl eV) ?_
      refine Y1 (Yv.fieldBox rfl fo_82_2 eV) ?_
      refine Y1 (Yv.loadBox rfl ag_80 (i := 0) rfl (E rfl rfl) rfl) ?_
      refine Y1 (Yv.move rfl eV) ?_
      refine Y1 (Yv.indexRow (j := j) rfl ss_80 (i := 2) rfl (E rfl rfl) (E rfl rfl) (fun hg => ⟨rfl, by show j < (ds.opn.set j _).length; rw [List.length_set]; exact hjl⟩)) ?_
      refine Y1 (Yv.fieldEp rfl fo_86_2 (E rfl rfl)) ?_
      refine Y1 (Yv.loadEp rfl ag_3 (i := 2) rfl (E rfl rfl) (fun hg => dpl_set hjl)) ?_
      refine Y1 (Yv.addN_i64 rfl (E rfl rfl) (E rfl rfl) (fun hg => by omega)) ?_
      refine Y1 (Yv.indexRow (j := j) rfl ss_80 (i := 2) rfl (E rfl rfl) (E rfl rfl) (fun hg => ⟨rfl, by show j < (ds.opn.set j _).length; rw [List.length_set]; exact hjl⟩)) ?_
      refine Y1 (Yv.fieldEp rfl fo_86_2 (E rfl rfl)) ?_
      refine AWL.storeEp1 (i := 2) rfl rfl rfl ag_3 rfl (E rfl rfl) (E rfl rfl) rfl rfl (by rw [len_desc]; show _ < (ds.opn.set j _).length * 3; rw [List.length_set]; omega) ?_
      refine nl ?_
      refine AW.eqS (S' := (DSt b (dsW ds j q (wr (ds.files.getD q default).bytes (ds.opn.getD j default).place (s.take (k + 1))) A1 c1 ((ds.opn.getD j default).place + k + 1)))) ?_ ?_
      · rw [← dsw_place hjl]
        rfl
      refine AW.region ?_
      refine Y1 (Yv.move rfl eV) ?_
      refine Y1 (Yv.addN_i64 rfl (E rfl rfl) (E rfl rfl) (fun hg => by omega)) ?_
      refine Y1 (Yv.assign rfl eV) ?_
      refine nl ?_
      refine ⟨k + 1, A1, c1, by omega, by omega, (Sub.cons rfl rfl (Sub.cons rfl rfl (Sub.cons rfl rfl (Sub.cons rfl rfl (Sub.cons rfl (by simp) Sub.nil))))), rfl⟩
    try replace h3f := of_decide_eq_false h3f
    refine AW.exit ?_
    obtain rfl : k = s.length := by omega
    rw [List.take_length]
    have hpbw : PB (n + s.length) (pl (dsW ds j q (wr (ds.files.getD q default).bytes (ds.opn.getD j default).place s) A c ((ds.opn.getD j default).place + s.length))) := pb_wrote hw1 (by omega) (by have := wr_le (l := (ds.files.getD q default).bytes) (p := (ds.opn.getD j default).place) (s := s); omega) (by omega)
    refine AW.region ?_
    refine Y1 (Yv.move rfl eV) ?_
    refine Y1 (Yv.move rfl eV) ?_
    refine Y1 (Yv.nilChk rfl eV) ?_
    refine Y1 (Yv.fieldBox rfl fo_82_2 eV) ?_
    refine Y1 (Yv.loadBox rfl ag_80 (i := 0) rfl (E rfl rfl) rfl) ?_
    refine Y1 (Yv.move rfl eV) ?_
    refine Y1 (Yv.indexRow (j := j) rfl ss_80 (i := 2) rfl (E rfl rfl) (E rfl rfl) (fun hg => ⟨rfl, by show j < (ds.opn.set j _).length; rw [List.length_set]; exact hjl⟩)) ?_
    refine Y1 (Yv.fieldEp rfl fo_86_1 (E rfl rfl)) ?_
    refine Y1 (Yv.loadEp rfl ag_9 (i := 2) rfl (E rfl rfl) (fun hg => dnm_set hjl)) ?_
    refine Y1 (Yv.move rfl eV) ?_
    refine AWL.callAll rfl rfl (B rfl) rfl ce_57 (E rfl rfl) (evsC (E rfl rfl) (evsC (E rfl rfl) (evsC (E rfl rfl) (evsC (E rfl rfl) evs0)))) (say57 b (dsW ds j q (wr (ds.files.getD q default).bytes (ds.opn.getD j default).place s) A c ((ds.opn.getD j default).place + s.length)) (n + s.length) hpbw (by omega) 3 (ds.opn.getD j default).name s (by omega)) ?_
    rintro t116 S116 ⟨rfl, A116, c116, rfl⟩
    refine nl ?_
    refine AW.rseq ?_
    refine Y1 (Yv.move rfl eV) ?_
    refine Y1 (Yv.lenL rfl st_9 (E rfl rfl)) ?_
    refine Y1 (Yv.assign rfl eV) ?_
    refine nl ?_
    refine AW.ret (retI (.tmp rfl .nil) ?_)
    exact ⟨by unfold writeV; rw [if_pos (.inr (.inr hk5))]; rfl, { dsW ds j q (wr (ds.files.getD q default).bytes (ds.opn.getD j default).place s) A c ((ds.opn.getD j default).place + s.length) with trace := sayF 3 (ds.opn.getD j default).name s ds.trace, tA := A116, tc := c116 }, write_file hjl hk5 hq hqn hqg hqp, rfl⟩
  try replace h2f := of_decide_eq_false h2f
  refine AW.rseq ?_
  refine Y1 (Yv.assign rfl eV) ?_
  refine nl ?_
  refine AW.ret (retI (.tmp rfl .nil) ?_)
  refine ⟨by unfold writeV; rw [if_neg (fun q => q.elim h0f (fun q => q.elim h1f h2f))]; rfl, ds, ?_, rfl⟩
  unfold writeP
  rw [if_neg h0f, if_neg h1f, if_neg h2f]

end Go.Proofs.Ytmiggpnkicdijaa

namespace Go.Proofs.Ytmiggpnkicdijaa
open Go Go.RowKit
set_option linter.unusedSimpArgs false
set_option linter.unusedVariables false
theorem open0_some {name : Nm} {p : PW} (h : ¬ openV name 0 p < 0) : (getP name p.files).isSome = true := by
  unfold openV at h
  split at h
  · exact absurd (by decide) h
  split at h
  · exact absurd (by decide) h
  split at h
  · exact absurd (by decide) h
  split at h
  · exact absurd (by decide) h
  · rename_i h1 h2 h3 h4
    cases e : getP name p.files with
    | some b => rfl
    | none => exact absurd ⟨rfl, e⟩ h4
def rdV (name : Nm) (p : PW) : List UInt8 × Bool := if openV name 0 p < 0 then ([], false) else ((getP name p.files).getD [], true)
def rdP (name : Nm) (p : PW) : PW := if openV name 0 p < 0 then p else closeP (openV name 0 p) (openP name 0 p)
def wfP (name : Nm) (s : List UInt8) (p : PW) : PW := if openV name 577 p < 0 then p else closeP (openV name 577 p) (writeP (openV name 577 p) s (openP name 577 p))
def DWr (name : Nm) (s : List UInt8) (p p' : PW) : Prop := ∃ p1, DOpen name 577 p p1 ∧ p' = if openV name 577 p < 0 then p1 else closeP (openV name 577 p) (writeP (openV name 577 p) s p1)
theorem DOpen.neg {name : Nm} {flags : Int} {p p' : PW} (h : DOpen name flags p p') (hv : openV name flags p < 0) : p' = p := by
  rcases h.is with ⟨_, h⟩ | ⟨h, _⟩ | ⟨h, _⟩
  · exact h
  · exact absurd hv h
  · exact absurd hv h
theorem DOpen.zero {name : Nm} {p p' : PW} (h : DOpen name 0 p p') : p' = openP name 0 p := by
  rcases h.is with ⟨h1, h2⟩ | ⟨_, _, h⟩ | ⟨_, h, _⟩
  · unfold openP
    rw [if_pos h1]
    exact h2
  · exact h
  · exact absurd h (by decide)
theorem laid_get {x : Nm × List UInt8} {l l' : Fl} (h : Laid x l l') {m : Nm} (hm : (getP m l).isSome = true ∨ m = x.1) : (getP m l').isSome = true := by
  cases e : getP m l' with
  | some b => rfl
  | none =>
    exfalso
    rw [getP_none] at e
    obtain ⟨i, hi, rfl, _, _⟩ := h.is
    rcases hm with hm | hm
    · cases e2 : getP m l with
      | none => rw [e2] at hm; cases hm
      | some b =>
        have hmem := getP_mem e2
        have : (m, b) ∈ l.take i ++ l.drop i := by rw [List.take_append_drop]; exact hmem
        rcases List.mem_append.1 this with h1 | h1
        · exact e _ (List.mem_append.2 (.inl h1)) rfl
        · exact e _ (List.mem_append.2 (.inr (List.mem_cons_of_mem _ h1))) rfl
    · exact e x (List.mem_append.2 (.inr (List.mem_cons_self ..))) hm.symm
theorem DOpen.named {name : Nm} {flags : Int} {p p' : PW} (h : DOpen name flags p p') (hn : Named p) : Named p' := by
  rcases h.is with ⟨_, rfl⟩ | ⟨_, _, rfl⟩ | ⟨_, _, h3, h4, h5, h6⟩
  · exact hn
  · exact named_open hn name flags
  · refine ⟨by rw [h3, List.length_set]; exact hn.1, fun x hx q => ?_⟩
    rw [h3] at hx
    have hx2 : (getP x.name p.files).isSome = true ∨ x.name = name := by
      rcases List.mem_or_eq_of_mem_set hx with hx | rfl
      · exact .inl (hn.2 x hx q)
      · exact .inr rfl
    rcases h6 with ⟨_, h7⟩ | ⟨_, h7⟩
    · rw [h7, getP_put]
      rcases hx2 with h | h
      · rw [h]; rfl
      · simp [h]
    · exact laid_get h7 hx2
theorem PB.mono {n m : Nat} {p : PW} (h : PB n p) (hm : n ≤ m) : PB m p := ⟨h.opn, Nat.le_trans h.tr hm, fun e he => Nat.le_trans (h.txt e he) hm, fun f hf => Nat.le_trans (h.fl f hf) hm, fun d hd => Nat.le_trans (h.pl d hd) hm, Nat.le_trans h.sin hm, Nat.le_trans h.nf hm⟩
theorem PB.line {n : Nat} {p : PW} (h : PB n p) : PB n (lineP p) := ⟨h.opn, h.tr, h.txt, h.fl, h.pl, by unfold lineP; simp only [List.length_drop]; have := h.sin; omega, h.nf⟩
theorem PB.close {n : Nat} {p : PW} (h : PB n p) (fd : Int) : PB n (closeP fd p) := by
  unfold closeP
  split
  · exact h
  · exact h.opn_set (Nat.zero_le n)
theorem PB.open0 {n : Nat} {p : PW} (h : PB n p) (name : Nm) (flags : Int) (hf : ¬ flags = 577) : PB n (openP name flags p) := by
  unfold openP
  split
  · exact h
  · exact h.opn_set (Nat.zero_le n)
theorem putP_fl {name : Nm} {b : List UInt8} {n : Nat} {l : Fl} (h : ∀ f ∈ l, f.2.length ≤ n) (hb : b.length ≤ n) : ∀ f ∈ putP name b l, f.2.length ≤ n := by
  intro f hf
  induction l with
  | nil => rw [putP] at hf; rw [List.mem_singleton.1 hf]; exact hb
  | cons x r ih =>
    rw [putP] at hf
    split at hf
    · rcases List.mem_cons.1 hf with rfl | hf
      · exact hb
      · exact h f (List.mem_cons_of_mem _ hf)
    · rcases List.mem_cons.1 hf with rfl | hf
      · exact h _ (List.mem_cons_self ..)
      · exact ih (fun g hg => h g (List.mem_cons_of_mem _ hg)) hf
theorem putP_ln {name : Nm} {b : List UInt8} : ∀ {l : Fl}, (putP name b l).length ≤ l.length + 1
  | [] => by simp [putP]
  | x :: r => by
    rw [putP]
    split
    · simp
    · have := putP_ln (name := name) (b := b) (l := r)
      simp only [List.length_cons]
      omega
theorem PB.opened {n : Nat} {p : PW} (h : PB n p) (name : Nm) : PB (n + 1) (openP name 577 p) := by
  unfold openP
  split
  · exact h.mono (by omega)
  · rw [if_pos rfl]
    refine ⟨?_, ?_, fun e he => ?_, putP_fl (fun f hf => Nat.le_trans (h.fl f hf) (by omega)) (Nat.zero_le _), fun d hd => ?_, Nat.le_trans h.sin (by omega), ?_⟩
    · show (p.opn.set _ _).length = 19
      rw [List.length_set]
      exact h.opn
    · show (p.trace ++ [_]).length ≤ n + 1
      rw [List.length_append]
      have := h.tr
      simp only [List.length_cons, List.length_nil]
      omega
    · rcases List.mem_append.1 he with he | he
      · have := h.txt e he; omega
      · rw [List.mem_singleton.1 he]; exact Nat.zero_le _
    · rcases List.mem_or_eq_of_mem_set hd with hd | rfl
      · have := h.pl d hd; omega
      · exact Nat.zero_le _
    · have := putP_ln (name := name) (b := []) (l := p.files)
      have := h.nf
      show (putP name [] p.files).length ≤ n + 1
      omega
theorem DOpen.pb {n : Nat} {name : Nm} {flags : Int} {p p' : PW} (h : DOpen name flags p p') (hb : PB n p) : PB (n + 1) p' := by
  rcases h.is with ⟨_, rfl⟩ | ⟨_, hf, rfl⟩ | ⟨_, _, h3, h4, h5, h6⟩
  · exact hb.mono (by omega)
  · exact (hb.open0 name flags hf).mono (by omega)
  · have hfl : (∀ f ∈ p'.files, f.2.length ≤ n) ∧ p'.files.length ≤ n + 1 := by
      rcases h6 with ⟨_, h7⟩ | ⟨_, h7⟩
      · rw [h7]
        refine ⟨putP_fl hb.fl (Nat.zero_le _), ?_⟩
        have := putP_ln (name := name) (b := []) (l := p.files)
        have := hb.nf
        omega
      · obtain ⟨i, hi, e, _, _⟩ := h7.is
        rw [e]
        refine ⟨fun f hf => ?_, ?_⟩
        · rcases List.mem_append.1 hf with hf | hf
          · exact hb.fl f (List.mem_of_mem_take hf)
          · rcases List.mem_cons.1 hf with rfl | hf
            · exact Nat.zero_le _
            · exact hb.fl f (List.mem_of_mem_drop hf)
        · rw [List.length_append, List.length_cons, List.length_take, List.length_drop]
          have := hb.nf
          omega
    refine ⟨by rw [h3, List.length_set]; exact hb.opn, ?_, fun e he => ?_, fun f hf => Nat.le_trans (hfl.1 f hf) (by omega), fun d hd => ?_, by rw [h4]; exact Nat.le_trans hb.sin (by omega), hfl.2⟩
    · rw [h5, List.length_append]
      have := hb.tr
      simp only [List.length_cons, List.length_nil]
      omega
    · rw [h5] at he
      rcases List.mem_append.1 he with he | he
      · have := hb.txt e he; omega
      · rw [List.mem_singleton.1 he]; exact Nat.zero_le _
    · rw [h3] at hd
      rcases List.mem_or_eq_of_mem_set hd with hd | rfl
      · have := hb.pl d hd; omega
      · exact Nat.zero_le _
theorem PB.read {n : Nat} {p : PW} (h : PB n p) (fd N : Int) : PB n (readP fd N p) := by
  unfold readP
  split
  · exact ⟨h.opn, h.tr, h.txt, h.fl, h.pl, by simp only [List.length_drop]; have := h.sin; omega, h.nf⟩
  split
  · rename_i hk
    by_cases hin : fd < 0 ∨ 19 ≤ fd
    · unfold kindP at hk
      rw [if_pos hin] at hk
      exact absurd hk (by decide)
    · have hjl : fd.toNat < p.opn.length := by have := h.opn; omega
      have hpj := h.pl (p.opn.getD fd.toNat default) (getD_mem' hjl)
      -- what is read lies in the file
      have hle : (((getP (p.opn.getD fd.toNat default).name p.files).getD []).drop (p.opn.getD fd.toNat default).place).length ≤ n - (p.opn.getD fd.toNat default).place := by
        rw [List.length_drop]
        cases e : getP (p.opn.getD fd.toNat default).name p.files with
        | none => simp
        | some b =>
          have := h.fl _ (getP_mem e)
          simp only [Option.getD_some]
          simp only at this
          omega
      refine h.opn_set ?_
      show (p.opn.getD fd.toNat default).place + _ ≤ n
      rw [List.length_take]
      omega
  · exact h
theorem sayF_pb {n : Nat} {k : Int} {name text : List UInt8} {l : List Evt} (h1 : l.length ≤ n) (h2 : ∀ e ∈ l, e.text.length ≤ n) : (sayF k name text l).length ≤ n + 1 + text.length ∧ ∀ e ∈ sayF k name text l, e.text.length ≤ n + 1 + text.length := by
  unfold sayF
  split
  · exact ⟨by omega, fun e he => by have := h2 e he; omega⟩
  · split
    · rename_i hc
      refine ⟨by rw [List.length_set]; omega, fun e he => ?_⟩
      rcases List.mem_or_eq_of_mem_set he with he | rfl
      · have := h2 e he; omega
      · have := h2 _ (last_mem hc.1)
        simp only [List.length_append]; omega
    · refine ⟨by simp; omega, fun e he => ?_⟩
      rcases List.mem_append.1 he with he | he
      · have := h2 e he; omega
      · rcases List.mem_singleton.1 he with rfl
        simp only; omega
theorem PB.write {n : Nat} {p : PW} (h : PB n p) (fd : Int) (s : List UInt8) : PB (n + 1 + s.length) (writeP fd s p) := by
  unfold writeP
  split
  · have := sayF_pb (k := 1) (name := []) (text := s) h.tr h.txt
    exact ⟨h.opn, this.1, this.2, fun f hf => by have := h.fl f hf; omega, fun d hd => by have := h.pl d hd; omega, by have := h.sin; show p.stdin.length ≤ _; omega, by have := h.nf; show p.files.length ≤ _; omega⟩
  split
  · have := sayF_pb (k := 2) (name := []) (text := s) h.tr h.txt
    exact ⟨h.opn, this.1, this.2, fun f hf => by have := h.fl f hf; omega, fun d hd => by have := h.pl d hd; omega, by have := h.sin; show p.stdin.length ≤ _; omega, by have := h.nf; show p.files.length ≤ _; omega⟩
  split
  · rename_i hk
    split
    · exact h.mono (by omega)
    · by_cases hin : fd < 0 ∨ 19 ≤ fd
      · unfold kindP at hk
        rw [if_pos hin] at hk
        exact absurd hk (by decide)
      · have hjl : fd.toNat < p.opn.length := by have := h.opn; omega
        have hpj := h.pl (p.opn.getD fd.toNat default) (getD_mem' hjl)
        have ht := sayF_pb (k := 3) (name := (p.opn.getD fd.toNat default).name) (text := s) h.tr h.txt
        have hwl := writeAt_len ((getP (p.opn.getD fd.toNat default).name p.files).getD []) (p.opn.getD fd.toNat default).place s
        have hg : ((getP (p.opn.getD fd.toNat default).name p.files).getD []).length ≤ n := by
          cases e : getP (p.opn.getD fd.toNat default).name p.files with
          | none => exact Nat.zero_le _
          | some b => exact h.fl _ (getP_mem e)
        refine ⟨by show (p.opn.set _ _).length = 19; rw [List.length_set]; exact h.opn, ht.1, ht.2, putP_fl (fun f hf => by have := h.fl f hf; omega) (by rw [hwl]; omega), fun d hd => ?_, by have := h.sin; show p.stdin.length ≤ _; omega, ?_⟩
        · rcases List.mem_or_eq_of_mem_set hd with hd | rfl
          · have := h.pl d hd; omega
          · show _ + s.length ≤ _; omega
        · have := putP_ln (name := (p.opn.getD fd.toNat default).name) (b := writeAt ((getP (p.opn.getD fd.toNat default).name p.files).getD []) (p.opn.getD fd.toNat default).place s) (l := p.files)
          have := h.nf
          show (putP _ _ p.files).length ≤ _
          omega
  · exact h.mono (by omega)
theorem Side.rdV {r d : PW} (h : Side r d) (name : Nm) : rdV name d = rdV name r := by unfold Go.Proofs.Ytmiggpnkicdijaa.rdV; rw [h.openV, h.get]
theorem Side.open0 {r d : PW} (h : Side r d) (name : Nm) : Side (openP name 0 r) (openP name 0 d) := by
  unfold openP
  rw [h.openV, h.opn]
  split
  · exact h
  · rw [if_neg (by decide), if_neg (by decide)]
    exact ⟨h.stdin, rfl, h.trace, h.files, h.srt⟩
theorem Side.rd {r d : PW} (h : Side r d) (name : Nm) : Side (rdP name r) (rdP name d) := by
  unfold rdP
  rw [h.openV]
  split
  · exact h
  · exact (h.open0 name).close _
theorem Side.wf {r d d' : PW} {name : Nm} {s : List UInt8} (h : Side r d) (hn : Named r) (hw : DWr name s d d') : Side (wfP name s r) d' := by
  obtain ⟨d1, h1, rfl⟩ := hw
  have hs := h.openD h1
  unfold wfP
  rw [h.openV]
  by_cases hv : Go.Proofs.Ytmiggpnkicdijaa.openV name 577 r < 0
  · rw [if_pos hv, if_pos hv]
    unfold openP at hs
    rw [if_pos hv] at hs
    exact hs
  · rw [if_neg hv, if_neg hv]
    exact (hs.write (named_open hn name 577) _ s).close _
theorem named_rd {p : PW} (h : Named p) (name : Nm) : Named (rdP name p) := by
  unfold rdP
  split
  · exact h
  · exact named_close (named_open h name 0) _
theorem named_wf {p : PW} (h : Named p) (name : Nm) (s : List UInt8) : Named (wfP name s p) := by
  unfold wfP
  split
  · exact h
  · exact named_close (named_write (named_open h name 577) _ s) _
theorem DWr.named {name : Nm} {s : List UInt8} {p p' : PW} (h : DWr name s p p') (hn : Named p) : Named p' := by
  obtain ⟨p1, h1, rfl⟩ := h
  split
  · exact h1.named hn
  · exact named_close (named_write (h1.named hn) _ s) _
theorem PB.rd {n : Nat} {p : PW} (h : PB n p) (name : Nm) : PB n (rdP name p) := by
  unfold rdP
  split
  · exact h
  · exact (h.open0 name 0 (by decide)).close _
theorem PB.wf {n : Nat} {p : PW} (h : PB n p) (name : Nm) (s : List UInt8) : PB (n + 2 + s.length) (wfP name s p) := by
  unfold wfP
  split
  · exact h.mono (by omega)
  · exact (((h.opened name).write _ s).close _).mono (by omega)
theorem DWr.pb {n : Nat} {name : Nm} {s : List UInt8} {p p' : PW} (h : DWr name s p p') (hb : PB n p) : PB (n + 2 + s.length) p' := by
  obtain ⟨p1, h1, rfl⟩ := h
  split
  · exact (h1.pb hb).mono (by omega)
  · exact (((h1.pb hb).write _ s).close _).mono (by omega)
end Go.Proofs.Ytmiggpnkicdijaa

namespace Go.Proofs.Ytmiggpnkicdijaa
open Go Go.RowKit
set_option linter.unusedVariables false
set_option linter.unnecessarySimpa false
set_option linter.unusedSimpArgs false

set_option maxHeartbeats 400000 in
theorem DOut42 (b : Nat) (ds : DS) (n : Nat) (hw : PB n (pl ds)) (hn : n ≤ 549755813888) (hnm : Named (pl ds)) (s : List UInt8) (hs : s.length ≤ 549755813888) :
    ACalls Try.prog 42 [wp b, sv s] (DSt b ds) (fun t S => t = .tup [] ∧ ∃ ds', pl ds' = writeP 1 s (pl ds) ∧ S = DSt b ds') := by
  refine ACalls.intro Try.func42 rfl Try.ntmps42 (Nat.le_of_ble_eq_true rfl) rfl fun X w0 => ?_
  refine AW.region ?_
  refine Y1 (Yv.move rfl eV) ?_
  refine Y1 (Yv.move rfl eV) ?_
  refine AWL.callAll rfl rfl (B rfl) rfl ce_40 (E rfl rfl) (evsC (E rfl rfl) (evsC (E rfl rfl) (evsC (E rfl rfl) evs0))) (SysWrite40 b ds n hw hn hnm 1 s hs) ?_
  rintro t6 S6 ⟨rfl, ds6, hd6, rfl⟩
  refine nl ?_
  refine retN .nil ?_
  exact ⟨rfl, _, hd6, rfl⟩

set_option maxHeartbeats 400000 in
theorem DErr44 (b : Nat) (ds : DS) (n : Nat) (hw : PB n (pl ds)) (hn : n ≤ 549755813888) (hnm : Named (pl ds)) (s : List UInt8) (hs : s.length ≤ 549755813888) :
    ACalls Try.prog 44 [wp b, sv s] (DSt b ds) (fun t S => t = .tup [] ∧ ∃ ds', pl ds' = writeP 2 s (pl ds) ∧ S = DSt b ds') := by
  refine ACalls.intro Try.func44 rfl Try.ntmps44 (Nat.le_of_ble_eq_true rfl) rfl fun X w0 => ?_
  refine AW.region ?_
  refine Y1 (Yv.move rfl eV) ?_
  refine Y1 (Yv.move rfl eV) ?_
  refine AWL.callAll rfl rfl (B rfl) rfl ce_40 (E rfl rfl) (evsC (E rfl rfl) (evsC (E rfl rfl) (evsC (E rfl rfl) evs0))) (SysWrite40 b ds n hw hn hnm 2 s hs) ?_
  rintro t6 S6 ⟨rfl, ds6, hd6, rfl⟩
  refine nl ?_
  refine retN .nil ?_
  exact ⟨rfl, _, hd6, rfl⟩

set_option maxHeartbeats 2000000 in
theorem ReadFile46 (b : Nat) (ds : DS) (n : Nat) (hw : PB n (pl ds)) (hn : n ≤ 549755813888) (hnm : Named (pl ds)) (name : List UInt8) (hnl : name.length ≤ 1099511627776) :
    ACalls Try.prog 46 [wp b, sv name] (DSt b ds) (fun t S => t = .tup [sv (rdV name (pl ds)).1, .v (.bool (rdV name (pl ds)).2)] ∧ ∃ ds', pl ds' = rdP name (pl ds) ∧ S = DSt b ds') := by
  refine ACalls.intro Try.func46 rfl Try.ntmps46 (Nat.le_of_ble_eq_true rfl) rfl fun X w0 => ?_
  refine AW.rseq ?_
  refine Y1 (Yv.assign rfl eV) ?_
  refine Y1 (Yv.assign rfl eV) ?_
  refine nl ?_
  refine AW.rseq ?_
  refine Y1 (Yv.move rfl eV) ?_
  refine Y1 (Yv.move rfl eV) ?_
  refine AWL.callAll rfl rfl (B rfl) rfl ce_37 (E rfl rfl) (evsC (E rfl rfl) (evsC (E rfl rfl) (evsC (E rfl rfl) evs0))) (SysOpen37 b ds n hw (by omega) name 0 hnl) ?_
  rintro t9 S9 ⟨rfl, ds1, ho1, rfl⟩
  have ho1 := ho1.zero
  refine Y1 (Yv.assign rfl eV) ?_
  refine nl ?_
  refine AW.seq ?_
  refine AW.rseq ?_
  refine Y1 (Yv.move rfl eV) ?_
  refine Y1 (Yv.lss rfl eV eV) ?_
  refine nl ?_
  refine AW.cond rfl (fun h0t => ?_) (fun h0f => ?_)
  ·
   try replace h0t := of_decide_eq_true h0t
   refine AW.rseq ?_
   refine Y1 (Yv.assign rfl eV) ?_
   refine Y1 (Yv.assign rfl eV) ?_
   refine nl ?_
   refine AW.ret (retI (.tmp rfl (.tmp rfl .nil)) ?_)
   refine ⟨by unfold rdV; rw [if_pos h0t]; rfl, ds1, ?_, rfl⟩
   unfold rdP
   rw [if_pos h0t, ho1]
   unfold openP
   rw [if_pos h0t]
  try replace h0f := of_decide_eq_false h0f
  refine AW.skip ?_
  refine AW.rseq ?_
  refine Y1 (Yv.move rfl eV) ?_
  refine Y1 (Yv.move rfl eV) ?_
  refine AWL.callAll rfl rfl (B rfl) rfl ce_41 (E rfl rfl) (evsC (E rfl rfl) (evsC (E rfl rfl) evs0)) (SysClose41 b ds1 n (ho1 ▸ hw.open0 name 0 (by decide)) (by omega) (openV name 0 (pl ds))) ?_
  rintro t14 S14 ⟨rfl, rfl⟩
  refine nl ?_
  obtain ⟨ds2, hds2⟩ : ∃ ds2, ds2 = { ds1 with opn := (closeP (openV name 0 (pl ds)) (pl ds1)).opn } := ⟨_, rfl⟩
  rw [← hds2]
  have hpl2 : pl ds2 = rdP name (pl ds) := by
    unfold rdP
    rw [if_neg h0f, ← ho1, hds2]
    unfold closeP
    split <;> rfl
  have hpb2 : PB n (pl ds2) := by rw [hpl2]; exact hw.rd name
  have hsome := open0_some h0f
  have hfe : (pl ds2).files = (pl ds).files := by
    rw [hds2]
    show (pl ds1).files = _
    rw [ho1]
    unfold openP
    rw [if_neg h0f, if_neg (by decide)]
  rw [← hfe] at hsome
  obtain ⟨q, hfq, hq, hqn, hqg, hqp⟩ := (findP_get (name := name) (l := (pl ds2).files)).resolve_left (fun h => by rw [h.2] at hsome; cases hsome)
  have hq : q < ds2.files.length := by have h := hq; unfold pl at h; rwa [List.length_map] at h
  have hqg : getP name (pl ds2).files = some (ds2.files.getD q default).bytes := by
    rw [hqg]
    unfold pl
    rw [nb_at hq]
    rfl
  refine AW.rseqP rfl ?_
  refine AWP.take (i := 0) rfl (by kernel_rfl) (by kernel_rfl) (by kernel_rfl) rfl rfl (B rfl) (freeMove rfl (E rfl rfl)) ?_
  refine AWP.take (i := 1) rfl (by kernel_rfl) (by kernel_rfl) (by kernel_rfl) rfl rfl (B rfl) (freeNil rfl (E rfl rfl)) ?_
  refine AWP.take (i := 2) rfl (by kernel_rfl) (by kernel_rfl) (by kernel_rfl) rfl rfl (B rfl) (freeField rfl fo_82_0 (E rfl rfl)) ?_
  refine AWP.take (i := 4) rfl (by kernel_rfl) (by kernel_rfl) (by kernel_rfl) rfl rfl (B rfl) (freeMove rfl (E rfl rfl)) ?_
  refine AWP.take (i := 5) rfl (by kernel_rfl) (by kernel_rfl) (by kernel_rfl) rfl rfl (B rfl) (freeMove rfl (E rfl rfl)) ?_
  refine AWP.two (i := 3) (j := 6) (by kernel_rfl) rfl rfl ?_ ?_
  ·
   refine Y1 (Yv.loadBox rfl ag_79 (i := 0) rfl (E rfl rfl) rfl) ?_
   refine nl ?_
   refine AWP.one (i := 6) (by kernel_rfl) rfl ?_
   refine AWL.callAll rfl rfl (B rfl) rfl ce_34 (E rfl rfl) (evsC (E rfl rfl) (evsC (E rfl rfl) evs0)) (find34 b ds2 n hpb2 (by omega) name) ?_
   rintro t21 S21 ⟨rfl, rfl⟩
   rw [hfq]
   refine nl ?_
   refine AWP.one (i := 7) (by kernel_rfl) rfl ?_
   refine Y1 (Yv.indexRow (j := q) rfl ss_79 (i := 1) rfl (E rfl rfl) (E rfl rfl) (fun hg => by first | exact ⟨by omega, by omega⟩ | (simp only [Bool.or_eq_true, Bool.and_eq_true, Bool.or_eq_false_iff, Bool.and_eq_false_iff, Bool.not_eq_true', Bool.not_eq_false', decide_eq_true_eq, decide_eq_false_iff_not, Decidable.not_not] at hg; exact ⟨by omega, by omega⟩))) ?_
   refine nl ?_
   refine AWP.one (i := 8) (by kernel_rfl) rfl ?_
   refine Y1 (Yv.fieldEp rfl fo_93_1 (E rfl rfl)) ?_
   refine nl ?_
   refine AWP.one (i := 9) (by kernel_rfl) rfl ?_
   refine Y1 (Yv.loadEp rfl ag_71 (i := 1) rfl (E rfl rfl) (fun hg => fby_at (by first | omega | (simp only [Bool.or_eq_true, Bool.and_eq_true, Bool.or_eq_false_iff, Bool.and_eq_false_iff, Bool.not_eq_true', Bool.not_eq_false', decide_eq_true_eq, decide_eq_false_iff_not, Decidable.not_not] at hg; omega)))) ?_
   refine nl ?_
   refine AWP.one (i := 10) (by kernel_rfl) rfl ?_
   refine Y1 (Yv.bytesStrRow (i := q + 4) rfl by_71 st_9 (dfile_row hq) (E rfl rfl)) ?_
   refine nl ?_
   refine AWP.one (i := 11) (by kernel_rfl) rfl ?_
   refine Y1 (Yv.assign rfl eV) ?_
   refine nl ?_
   refine AWP.one (i := 12) (by kernel_rfl) rfl ?_
   refine Y1 (Yv.assign rfl eV) ?_
   refine nl ?_
   refine AWP.done (by kernel_rfl) ?_
   refine AW.ret (retI (.tmp rfl (.tmp rfl .nil)) ?_)
   refine ⟨?_, ds2, hpl2, rfl⟩
   unfold rdV
   rw [if_neg h0f, ← hfe, hqg]
   rfl
  ·
   refine AWL.callAll rfl rfl (B rfl) rfl ce_34 (E rfl rfl) (evsC (E rfl rfl) (evsC (E rfl rfl) evs0)) (find34 b ds2 n hpb2 (by omega) name) ?_
   rintro t21 S21 ⟨rfl, rfl⟩
   rw [hfq]
   refine nl ?_
   refine AWP.one (i := 3) (by kernel_rfl) rfl ?_
   refine Y1 (Yv.loadBox rfl ag_79 (i := 0) rfl (E rfl rfl) rfl) ?_
   refine nl ?_
   refine AWP.one (i := 7) (by kernel_rfl) rfl ?_
   refine Y1 (Yv.indexRow (j := q) rfl ss_79 (i := 1) rfl (E rfl rfl) (E rfl rfl) (fun hg => by first | exact ⟨by omega, by omega⟩ | (simp only [Bool.or_eq_true, Bool.and_eq_true, Bool.or_eq_false_iff, Bool.and_eq_false_iff, Bool.not_eq_true', Bool.not_eq_false', decide_eq_true_eq, decide_eq_false_iff_not, Decidable.not_not] at hg; exact ⟨by omega, by omega⟩))) ?_
   refine nl ?_
   refine AWP.one (i := 8) (by kernel_rfl) rfl ?_
   refine Y1 (Yv.fieldEp rfl fo_93_1 (E rfl rfl)) ?_
   refine nl ?_
   refine AWP.one (i := 9) (by kernel_rfl) rfl ?_
   refine Y1 (Yv.loadEp rfl ag_71 (i := 1) rfl (E rfl rfl) (fun hg => fby_at (by first | omega | (simp only [Bool.or_eq_true, Bool.and_eq_true, Bool.or_eq_false_iff, Bool.and_eq_false_iff, Bool.not_eq_true', Bool.not_eq_false', decide_eq_true_eq, decide_eq_false_iff_not, Decidable.not_not] at hg; omega)))) ?_
   refine nl ?_
   refine AWP.one (i := 10) (by kernel_rfl) rfl ?_
   refine Y1 (Yv.bytesStrRow (i := q + 4) rfl by_71 st_9 (dfile_row hq) (E rfl rfl)) ?_
   refine nl ?_
   refine AWP.one (i := 11) (by kernel_rfl) rfl ?_
   refine Y1 (Yv.assign rfl eV) ?_
   refine nl ?_
   refine AWP.one (i := 12) (by kernel_rfl) rfl ?_
   refine Y1 (Yv.assign rfl eV) ?_
   refine nl ?_
   refine AWP.done (by kernel_rfl) ?_
   refine AW.ret (retI (.tmp rfl (.tmp rfl .nil)) ?_)
   refine ⟨?_, ds2, hpl2, rfl⟩
   unfold rdV
   rw [if_neg h0f, ← hfe, hqg]
   rfl

set_option maxHeartbeats 2000000 in
theorem DWriteFile47 (b : Nat) (ds : DS) (n : Nat) (hw : PB n (pl ds)) (hn : n ≤ 274877906944) (hnm : Named (pl ds)) (name s : List UInt8) (hnl : name.length ≤ 1099511627776) (hs : s.length ≤ 274877906944) :
    ACalls Try.prog 47 [wp b, sv name, sv s] (DSt b ds) (fun t S => t = .v (.bool (!decide (openV name 577 (pl ds) < 0))) ∧ ∃ ds', DWr name s (pl ds) (pl ds') ∧ S = DSt b ds') := by
  refine ACalls.intro Try.func47 rfl Try.ntmps47 (Nat.le_of_ble_eq_true rfl) rfl fun X w0 => ?_
  refine AW.rseq ?_
  refine Y1 (Yv.assign rfl eV) ?_
  refine nl ?_
  refine AW.rseq ?_
  refine Y1 (Yv.move rfl eV) ?_
  refine Y1 (Yv.move rfl eV) ?_
  refine AWL.callAll rfl rfl (B rfl) rfl ce_37 (E rfl rfl) (evsC (E rfl rfl) (evsC (E rfl rfl) (evsC (E rfl rfl) evs0))) (SysOpen37 b ds n hw (by omega) name 577 hnl) ?_
  rintro t10 S10 ⟨rfl, ds1, ho1, rfl⟩
  have hp1 := ho1.pb hw
  have hn1 := ho1.named hnm
  refine Y1 (Yv.assign rfl eV) ?_
  refine nl ?_
  refine AW.seq ?_
  refine AW.rseq ?_
  refine Y1 (Yv.move rfl eV) ?_
  refine Y1 (Yv.lss rfl eV eV) ?_
  refine nl ?_
  refine AW.cond rfl (fun h0t => ?_) (fun h0f => ?_)
  ·
   try replace h0t := of_decide_eq_true h0t
   refine AW.rseq ?_
   refine Y1 (Yv.assign rfl eV) ?_
   refine nl ?_
   refine AW.ret (retI (.tmp rfl .nil) ?_)
   refine ⟨by rw [decide_eq_true h0t]; rfl, ds1, ⟨_, ho1, ?_⟩, rfl⟩
   rw [if_pos h0t]
  try replace h0f := of_decide_eq_false h0f
  refine AW.skip ?_
  refine AW.rseq ?_
  refine Y1 (Yv.move rfl eV) ?_
  refine Y1 (Yv.move rfl eV) ?_
  refine Y1 (Yv.move rfl eV) ?_
  refine AWL.callAll rfl rfl (B rfl) rfl ce_40 (E rfl rfl) (evsC (E rfl rfl) (evsC (E rfl rfl) (evsC (E rfl rfl) evs0))) (SysWrite40 b ds1 (n + 1) hp1 (by omega) hn1 (openV name 577 (pl ds)) s (by omega)) ?_
  rintro t16 S16 ⟨rfl, ds2, hd2, rfl⟩
  have hp2 : PB (n + 1 + 1 + s.length) (pl ds2) := hd2 ▸ hp1.write _ s
  refine nl ?_
  refine AW.rseq ?_
  refine Y1 (Yv.move rfl eV) ?_
  refine Y1 (Yv.move rfl eV) ?_
  refine AWL.callAll rfl rfl (B rfl) rfl ce_41 (E rfl rfl) (evsC (E rfl rfl) (evsC (E rfl rfl) evs0)) (SysClose41 b ds2 (n + 1 + 1 + s.length) hp2 (by omega) (openV name 577 (pl ds))) ?_
  rintro t19 S19 ⟨rfl, rfl⟩
  refine nl ?_
  refine AW.rseq ?_
  refine Y1 (Yv.assign rfl eV) ?_
  refine nl ?_
  refine AW.ret (retI (.tmp rfl .nil) ?_)
  refine ⟨by rw [decide_eq_false h0f]; rfl, _, ⟨_, ho1, ?_⟩, rfl⟩
  rw [if_neg h0f, ← hd2]
  unfold closeP
  split <;> rfl

end Go.Proofs.Ytmiggpnkicdijaa

namespace Go.Proofs.Ytmiggpnkicdijaa
open Go Go.RowKit
set_option linter.unusedSimpArgs false
set_option linter.unusedVariables false
theorem fcn_at {l : List (List UInt8 × List UInt8)} {j : Nat} (h : j < l.length) : (l.flatMap fCells)[j * 2 + 0]? = some (sv (l.getD j default).1) := flat_at fk h 0 (by decide)
theorem fct_at {l : List (List UInt8 × List UInt8)} {j : Nat} (h : j < l.length) : (l.flatMap fCells)[j * 2 + 1]? = some (sv (l.getD j default).2) := flat_at fk h 1 (by decide)
theorem fits_eq (s : List UInt8) : fitsB s = ((decide (1 ≤ (s.length : Int)) && decide ((s.length : Int) ≤ 255)) && !badN s) := by
  unfold fitsB
  have h1 : (!decide (s = [])) = decide (1 ≤ (s.length : Int)) := by
    cases s with
    | nil => rfl
    | cons a r =>
      have : (1 : Int) ≤ ((a :: r).length : Int) := by simp only [List.length_cons]; omega
      rw [decide_eq_true this]
      simp
  have h2 : decide (Lib.indexByte s 0 < 0) = !badN s := by
    have h := idx_bad s
    cases hb : badN s
    · rw [hb] at h
      have : Lib.indexByte s 0 < 0 := by
        rcases Int.lt_or_le (Lib.indexByte s 0) 0 with q | q
        · exact q
        · exact absurd (h.1 q) (by decide)
      rw [decide_eq_true this]; rfl
    · rw [hb] at h
      have : ¬ Lib.indexByte s 0 < 0 := by have := h.2 rfl; omega
      rw [decide_eq_false this]; rfl
  rw [h1, h2]
/-- The files of a new world, in the document's order. -/
structure NI (p fs : Fl) : Prop where
  srt : Srt fs
  perm : p.Perm fs
theorem NI.nil : NI (nF []) [] := ⟨List.Pairwise.nil, List.Perm.refl _⟩
theorem any_none {name : Nm} {l : Fl} : (l.any fun y => decide (y.1 = name)) = (getP name l).isSome := by
  induction l with
  | nil => rfl
  | cons x r ih =>
    rw [List.any_cons, getP, ih]
    by_cases h : x.1 = name <;> simp [h]
theorem perm_isSome {name : Nm} {l l' : Fl} (h : l.Perm l') : (getP name l).isSome = (getP name l').isSome := by
  rw [← any_none, ← any_none]
  apply Bool.eq_iff_iff.2
  rw [List.any_eq_true, List.any_eq_true]
  exact ⟨fun ⟨x, hx, q⟩ => ⟨x, h.subset hx, q⟩, fun ⟨x, hx, q⟩ => ⟨x, h.symm.subset hx, q⟩⟩
theorem NI.add {l : Fl} {j : Nat} {fs fs' : Fl} (h : NI (nF (l.take j)) fs) (hj : j < l.length) (hf : fitsB (l.getD j default).1 = true) (hg : getP (l.getD j default).1 fs = none) (hl : Laid (l.getD j default) fs fs') : NI (nF (l.take (j + 1))) fs' := by
  have h1 := laid_srt h.srt hg hl
  refine ⟨h1.1, ?_⟩
  have hn : ((nF (l.take j)).any fun y => decide (y.1 = (l.getD j default).1)) = false := by
    rw [any_none, perm_isSome h.perm, hg]
    rfl
  rw [nF_succ hj, stepN, hn, hf]
  refine List.Perm.trans ?_ h1.2
  rw [putP_new hg]
  exact h.perm.append_right _
theorem NI.skip {l : Fl} {j : Nat} {fs : Fl} (h : NI (nF (l.take j)) fs) (hj : j < l.length) (hf : fitsB (l.getD j default).1 = false ∨ ¬ getP (l.getD j default).1 fs = none) : NI (nF (l.take (j + 1))) fs := by
  refine ⟨h.srt, ?_⟩
  rw [nF_succ hj, stepN, if_neg ?_]
  · exact h.perm
  · rw [Bool.and_eq_true, Bool.not_eq_true', any_none, perm_isSome h.perm]
    rintro ⟨a, b⟩
    rcases hf with q | q
    · rw [b] at q; cases q
    · cases e : getP (l.getD j default).1 fs with
      | none => exact q e
      | some x => rw [e] at a; cases a
/-- A world of the document's without descriptors. -/
def ds0 (fs : List FileR) (lA : Option Addr) (lc : Nat) (stdin : List UInt8) : DS := ⟨fs, lA, lc, stdin, [], none, 0, [], none, 0⟩
theorem new_perm (b : Nat) (fs : List FileR) (lA : Option Addr) (lc : Nat) (stdin : List UInt8) {A : Option Addr} : (DSt b { ds0 fs lA lc stdin with opn := opnZ, dA := A, dc := 19 }).Perm
    (.box b 82 [.v (.slice lA fs.length lc), sv stdin, .v (.slice A 19 19), .v (.slice none 0 0)] :: .row lA fs.length lc 93 2 (fs.flatMap fileCells) :: .row none 0 0 36 3 [] :: (fs.map fileRow ++ [.row A 19 19 86 3 (opnZ.flatMap descCells)])) := by
  refine List.Perm.cons _ (List.Perm.cons _ ?_)
  refine List.Perm.trans (List.Perm.swap _ _ _) (List.Perm.cons _ ?_)
  exact (List.perm_append_singleton _ _).symm
theorem ni_len {p fs : Fl} (h : NI p fs) : fs.length = p.length := h.perm.length_eq.symm
theorem nF_len (l : Fl) (j : Nat) (hj : j ≤ l.length) : (nF (l.take j)).length ≤ j := by
  induction j with
  | zero => simp [nF]
  | succ j ih =>
    have h1 := ih (by omega)
    rw [nF_succ (by omega), stepN]
    split
    · rw [List.length_append]
      simp only [List.length_cons, List.length_nil]
      omega
    · omega
end Go.Proofs.Ytmiggpnkicdijaa

namespace Go.Proofs.Ytmiggpnkicdijaa
open Go Go.RowKit
set_option linter.unusedVariables false
set_option linter.unnecessarySimpa false
set_option linter.unusedSimpArgs false

set_option maxHeartbeats 2000000 in
theorem DNew21 (stdin : List UInt8) (files : List (List UInt8 × List UInt8)) (hl : files.length ≤ 549755813888) (hn : ∀ x ∈ files, x.1.length ≤ 1099511627776) (hd : ∀ x ∈ files, x.2.length ≤ 1099511627776) :
    ACalls Try.prog 21 [worldT stdin files] [] (fun t S => ∃ b ds, t = wp b ∧ S = DSt b ds ∧ ds.stdin = stdin ∧ ds.opn = opn0 ∧ ds.trace = [] ∧ NI (nF files) (ds.files.map nb)) := by
  refine ACalls.intro Try.func21 rfl Try.ntmps21 (Nat.le_of_ble_eq_true rfl) rfl fun X w0 => ?_
  refine AW.rseq ?_
  refine AWL.boxOp rfl rfl (B rfl) rfl (E rfl rfl) rfl (fun b1 => ?_)
  refine Y1 (Yv.assign rfl eV) ?_
  refine nl ?_
  refine AW.rseq ?_
  refine Y1 (Yv.fieldBox rfl fo_28_0 eV) ?_
  refine Y1 (Yv.loadBox rfl ag_9 (i := 0) rfl (E rfl rfl) rfl) ?_
  refine Y1 (Yv.buildS rfl sh_82 (evpC (E rfl rfl) evp0) (fun _ => rfl)) ?_
  refine AWL.boxOp rfl rfl (B rfl) rfl (E rfl rfl) rfl (fun b10 => ?_)
  refine Y1 (Yv.assign rfl eV) ?_
  refine nl ?_
  refine AW.rowNil 93 2 ?_
  refine AW.rowNil 86 3 ?_
  refine AW.rowNil 36 3 ?_
  refine AW.eqS (S' := .box b1 28 [sv stdin, .sl 2 (files.flatMap fCells)] :: DSt b10 (ds0 [] none 0 stdin)) rfl ?_
  refine AW.seq ?_
  refine AW.rseq ?_
  refine Y1 (Yv.assign rfl eV) ?_
  refine nl ?_
  refine AW.block ?_
  refine AW.loop4 (fun (j : Nat) (fs : List FileR) (lA : Option Addr) (lc : Nat) => [(1, true, .v (.pointer (some ⟨b1, 0, none⟩))), (3, true, wp b10), (4, true, .v (.int .i64 (j : Int)))]) (fun (j : Nat) (fs : List FileR) (lA : Option Addr) (lc : Nat) => (.box b1 28 [sv stdin, .sl 2 (files.flatMap fCells)] :: DSt b10 (ds0 fs lA lc stdin))) (fun (j : Nat) (fs : List FileR) (lA : Option Addr) (lc : Nat) => j ≤ files.length ∧ NI (nF (files.take j)) (fs.map nb)) (fun (j : Nat) (fs : List FileR) (lA : Option Addr) (lc : Nat) => files.length - j) 0 ([]) none 0 ?_ ?_ ?_ ?_
  · exact ⟨Nat.zero_le _, NI.nil⟩
  · exact (Sub.cons rfl rfl (Sub.cons rfl rfl (Sub.cons rfl rfl Sub.nil)))
  · rfl
  ·
   intro j fs lA lc hinv
   obtain ⟨hj, hni⟩ := hinv
   have hfl : fs.length ≤ files.length := by
     have h1 := ni_len hni
     rw [List.length_map] at h1
     have h2 := nF_len files j hj
     omega
   refine AW.seq ?_
   refine AW.rseq ?_
   refine Y1 (Yv.move rfl eV) ?_
   refine Y1 (Yv.fieldBox rfl fo_28_1 eV) ?_
   refine Y1 (Yv.loadBox rfl ag_26 (i := 0) rfl (E rfl rfl) rfl) ?_
   refine Y1 (Yv.lenSl rfl so_26 (B rfl) (E rfl rfl) len_fc) ?_
   refine Y1 (Yv.lss rfl eV eV) ?_
   refine nl ?_
   refine AW.cond rfl (fun h0t => ?_) (fun h0f => ?_)
   ·
    try replace h0t := of_decide_eq_true h0t
    have hjl : j < files.length := by omega
    have hnj : (files.getD j default).1.length ≤ 1099511627776 := hn _ (getD_mem' hjl)
    have hdj : (files.getD j default).2.length ≤ 1099511627776 := hd _ (getD_mem' hjl)
    refine AW.skip ?_
    refine AW.seq ?_
    refine AW.block ?_
    refine AW.rseq ?_
    refine Y1 (Yv.fieldBox rfl fo_28_1 eV) ?_
    refine Y1 (Yv.loadBox rfl ag_26 (i := 0) rfl (E rfl rfl) rfl) ?_
    refine Y1 (Yv.move rfl eV) ?_
    refine Y1 (Yv.indexSl rfl ss_26 (B rfl) (E rfl rfl) (E rfl rfl) (fun hg => ⟨rfl, (by first | omega | (simp only [len_fc, len_ev]; omega))⟩)) ?_
    refine Y1 (Yv.fieldRp rfl fo_46_0 (E rfl rfl)) ?_
    refine Y1 (Yv.loadRp rfl ag_9 (E rfl rfl) (fun hg => fcn_at (by omega))) ?_
    refine AWL.callP rfl rfl (B rfl) rfl ce_33 (E rfl rfl) (evsC (E rfl rfl) evs0) (fits33 (files.getD j default).1 hnj) (fun t S h => h) ?_
    refine Y1 (Yv.assign rfl eV) ?_
    refine nl ?_
    refine AW.rseq ?_
    refine Y1 (Yv.move rfl eV) ?_
    refine Y1 (Yv.fieldBox rfl fo_28_1 eV) ?_
    refine Y1 (Yv.loadBox rfl ag_26 (i := 0) rfl (E rfl rfl) rfl) ?_
    refine Y1 (Yv.move rfl eV) ?_
    refine Y1 (Yv.indexSl rfl ss_26 (B rfl) (E rfl rfl) (E rfl rfl) (fun hg => ⟨rfl, (by first | omega | (simp only [len_fc, len_ev]; omega))⟩)) ?_
    refine Y1 (Yv.fieldRp rfl fo_46_0 (E rfl rfl)) ?_
    refine Y1 (Yv.loadRp rfl ag_9 (E rfl rfl) (fun hg => fcn_at (by omega))) ?_
    refine AWL.callE rfl rfl (B rfl) rfl ce_34 (E rfl rfl) (evsC (E rfl rfl) (evsC (E rfl rfl) evs0)) (F1 := [.box b1 28 [sv stdin, .sl 2 (files.flatMap fCells)]]) (S1 := (DSt b10 (ds0 fs lA lc stdin))) rfl (find34F b10 (ds0 fs lA lc stdin) files.length hfl (by omega) (files.getD j default).1) ?_
    rintro t32 S32 ⟨rfl, rfl⟩
    refine Y1 (Yv.assign rfl eV) ?_
    refine nl ?_
    refine AW.rseq ?_
    refine Y1 (Yv.move rfl eV) ?_
    refine Y1 (Yv.move rfl eV) ?_
    refine AWL.ygT rfl rfl rfl rfl (B rfl) (Yv.move rfl (E rfl rfl)) ?_
    refine AWL.ygT rfl rfl rfl rfl (B rfl) (Yv.lss rfl (Eg rfl rfl id) (E rfl rfl)) ?_
    refine Y1 (Yv.pickAnd rfl (E rfl rfl) (Eg rfl rfl id)) ?_
    refine nl ?_
    refine AW.cond rfl (fun h1t => ?_) (fun h1f => ?_)
    ·
     try replace h1t := of_decide_eq_true h1t
     rw [Bool.and_eq_true, ← fits_eq] at h1t
     have hfits := h1t.1
     have hget : getP (files.getD j default).1 (fs.map nb) = none := by
       rcases findP_get (name := (files.getD j default).1) (l := fs.map nb) with ⟨_, h⟩ | ⟨q, h, _⟩
       · exact h
       · exfalso
         have h2 := of_decide_eq_true h1t.2
         have h3 : findP (files.getD j default).1 (fs.map nb) < 0 := h2
         rw [h] at h3
         omega
     refine AW.regionP rfl ?_
     refine AWP.take (i := 0) rfl (by kernel_rfl) (by kernel_rfl) (by kernel_rfl) rfl rfl (B rfl) (freeMove rfl (E rfl rfl)) ?_
     refine AWP.take (i := 1) rfl (by kernel_rfl) (by kernel_rfl) (by kernel_rfl) rfl rfl (B rfl) (freeField rfl fo_28_1 (E rfl rfl)) ?_
     refine AWP.take (i := 3) rfl (by kernel_rfl) (by kernel_rfl) (by kernel_rfl) rfl rfl (B rfl) (freeMove rfl (E rfl rfl)) ?_
     refine AWP.take (i := 7) rfl (by kernel_rfl) (by kernel_rfl) (by kernel_rfl) rfl rfl (B rfl) (freeField rfl fo_28_1 (E rfl rfl)) ?_
     refine AWP.take (i := 9) rfl (by kernel_rfl) (by kernel_rfl) (by kernel_rfl) rfl rfl (B rfl) (freeMove rfl (E rfl rfl)) ?_
     refine AWP.two (i := 2) (j := 8) (by kernel_rfl) rfl rfl ?_ ?_
     ·
      refine Y1 (Yv.loadBox rfl ag_26 (i := 0) rfl (E rfl rfl) rfl) ?_
      refine nl ?_
      refine AWP.take (i := 4) rfl (by kernel_rfl) (by kernel_rfl) (by kernel_rfl) rfl rfl (B rfl) (freeIdxSl rfl ss_26 (by decide) (E rfl rfl) (E rfl rfl) ⟨rfl, by rw [len_fc]; omega⟩) ?_
      refine AWP.take (i := 5) rfl (by kernel_rfl) (by kernel_rfl) (by kernel_rfl) rfl rfl (B rfl) (freeFieldRp rfl fo_46_0 (E rfl rfl)) ?_
      refine AWP.two (i := 6) (j := 8) (by kernel_rfl) rfl rfl ?_ ?_
      ·
       refine Y1 (Yv.loadRp rfl ag_9 (E rfl rfl) (fun hg => fcn_at (by omega))) ?_
       refine nl ?_
       refine AWP.one (i := 8) (by kernel_rfl) rfl ?_
       refine Y1 (Yv.loadBox rfl ag_26 (i := 0) rfl (E rfl rfl) rfl) ?_
       refine nl ?_
       refine AWP.one (i := 10) (by kernel_rfl) rfl ?_
       refine Y1 (Yv.indexSl rfl ss_26 (B rfl) (E rfl rfl) (E rfl rfl) (fun hg => ⟨rfl, (by first | omega | (simp only [len_fc, len_ev]; omega))⟩)) ?_
       refine nl ?_
       refine AWP.one (i := 11) (by kernel_rfl) rfl ?_
       refine Y1 (Yv.fieldRp rfl fo_46_1 (E rfl rfl)) ?_
       refine nl ?_
       refine AWP.one (i := 12) (by kernel_rfl) rfl ?_
       refine Y1 (Yv.loadRp rfl ag_9 (E rfl rfl) (fun hg => fct_at (by omega))) ?_
       refine nl ?_
       refine AWP.one (i := 13) (by kernel_rfl) rfl ?_
       refine AWL.strBytesRow rfl rfl (B rfl) rfl st_9 so_71 kd_5 (E rfl rfl) (by exact Nat.le_trans hdj (by unfold maxLen; decide)) (fun A51 c51 => ?_)
       refine nl ?_
       refine AWP.one (i := 14) (by kernel_rfl) rfl ?_
       refine AWL.callE rfl rfl (B rfl) rfl ce_35 (E rfl rfl) (evsC (E rfl rfl) (evsC (E rfl rfl) (evsC (E rfl rfl) evs0))) (F1 := [.box b1 28 [sv stdin, .sl 2 (files.flatMap fCells)]]) (S1 := (DSt b10 (ds0 fs lA lc stdin) ++ [fileRow ⟨(files.getD j default).1, (files.getD j default).2, A51, c51⟩])) rfl (lay35F b10 (ds0 fs lA lc stdin) files.length hfl (by omega) ⟨(files.getD j default).1, (files.getD j default).2, A51, c51⟩ hdj) ?_
       rintro t52 S52 ⟨rfl, fs1, lA1, lc1, hl1, rfl⟩
       refine nl ?_
       refine AWP.done (by kernel_rfl) ?_
       refine AW.region ?_
       refine Y1 (Yv.move rfl eV) ?_
       refine Y1 (Yv.addN_i64 rfl (E rfl rfl) (E rfl rfl) (fun hg => by omega)) ?_
       refine Y1 (Yv.assign rfl eV) ?_
       refine nl ?_
       refine ⟨j + 1, fs1, lA1, lc1, ⟨by omega, hni.add hjl hfits hget hl1⟩, by omega, (Sub.cons rfl rfl (Sub.cons rfl rfl (Sub.cons rfl (by simp) Sub.nil))), rfl⟩
      ·
       refine Y1 (Yv.loadBox rfl ag_26 (i := 0) rfl (E rfl rfl) rfl) ?_
       refine nl ?_
       refine AWP.take (i := 10) rfl (by kernel_rfl) (by kernel_rfl) (by kernel_rfl) rfl rfl (B rfl) (freeIdxSl rfl ss_26 (by decide) (E rfl rfl) (E rfl rfl) ⟨rfl, by rw [len_fc]; omega⟩) ?_
       refine AWP.take (i := 11) rfl (by kernel_rfl) (by kernel_rfl) (by kernel_rfl) rfl rfl (B rfl) (freeFieldRp rfl fo_46_1 (E rfl rfl)) ?_
       refine AWP.two (i := 6) (j := 12) (by kernel_rfl) rfl rfl ?_ ?_
       ·
        refine Y1 (Yv.loadRp rfl ag_9 (E rfl rfl) (fun hg => fcn_at (by omega))) ?_
        refine nl ?_
        refine AWP.one (i := 12) (by kernel_rfl) rfl ?_
        refine Y1 (Yv.loadRp rfl ag_9 (E rfl rfl) (fun hg => fct_at (by omega))) ?_
        refine nl ?_
        refine AWP.one (i := 13) (by kernel_rfl) rfl ?_
        refine AWL.strBytesRow rfl rfl (B rfl) rfl st_9 so_71 kd_5 (E rfl rfl) (by exact Nat.le_trans hdj (by unfold maxLen; decide)) (fun A51 c51 => ?_)
        refine nl ?_
        refine AWP.one (i := 14) (by kernel_rfl) rfl ?_
        refine AWL.callE rfl rfl (B rfl) rfl ce_35 (E rfl rfl) (evsC (E rfl rfl) (evsC (E rfl rfl) (evsC (E rfl rfl) evs0))) (F1 := [.box b1 28 [sv stdin, .sl 2 (files.flatMap fCells)]]) (S1 := (DSt b10 (ds0 fs lA lc stdin) ++ [fileRow ⟨(files.getD j default).1, (files.getD j default).2, A51, c51⟩])) rfl (lay35F b10 (ds0 fs lA lc stdin) files.length hfl (by omega) ⟨(files.getD j default).1, (files.getD j default).2, A51, c51⟩ hdj) ?_
        rintro t52 S52 ⟨rfl, fs1, lA1, lc1, hl1, rfl⟩
        refine nl ?_
        refine AWP.done (by kernel_rfl) ?_
        refine AW.region ?_
        refine Y1 (Yv.move rfl eV) ?_
        refine Y1 (Yv.addN_i64 rfl (E rfl rfl) (E rfl rfl) (fun hg => by omega)) ?_
        refine Y1 (Yv.assign rfl eV) ?_
        refine nl ?_
        refine ⟨j + 1, fs1, lA1, lc1, ⟨by omega, hni.add hjl hfits hget hl1⟩, by omega, (Sub.cons rfl rfl (Sub.cons rfl rfl (Sub.cons rfl (by simp) Sub.nil))), rfl⟩
       ·
        refine Y1 (Yv.loadRp rfl ag_9 (E rfl rfl) (fun hg => fct_at (by omega))) ?_
        refine nl ?_
        refine AWP.two (i := 6) (j := 13) (by kernel_rfl) rfl rfl ?_ ?_
        ·
         refine Y1 (Yv.loadRp rfl ag_9 (E rfl rfl) (fun hg => fcn_at (by omega))) ?_
         refine nl ?_
         refine AWP.one (i := 13) (by kernel_rfl) rfl ?_
         refine AWL.strBytesRow rfl rfl (B rfl) rfl st_9 so_71 kd_5 (E rfl rfl) (by exact Nat.le_trans hdj (by unfold maxLen; decide)) (fun A51 c51 => ?_)
         refine nl ?_
         refine AWP.one (i := 14) (by kernel_rfl) rfl ?_
         refine AWL.callE rfl rfl (B rfl) rfl ce_35 (E rfl rfl) (evsC (E rfl rfl) (evsC (E rfl rfl) (evsC (E rfl rfl) evs0))) (F1 := [.box b1 28 [sv stdin, .sl 2 (files.flatMap fCells)]]) (S1 := (DSt b10 (ds0 fs lA lc stdin) ++ [fileRow ⟨(files.getD j default).1, (files.getD j default).2, A51, c51⟩])) rfl (lay35F b10 (ds0 fs lA lc stdin) files.length hfl (by omega) ⟨(files.getD j default).1, (files.getD j default).2, A51, c51⟩ hdj) ?_
         rintro t52 S52 ⟨rfl, fs1, lA1, lc1, hl1, rfl⟩
         refine nl ?_
         refine AWP.done (by kernel_rfl) ?_
         refine AW.region ?_
         refine Y1 (Yv.move rfl eV) ?_
         refine Y1 (Yv.addN_i64 rfl (E rfl rfl) (E rfl rfl) (fun hg => by omega)) ?_
         refine Y1 (Yv.assign rfl eV) ?_
         refine nl ?_
         refine ⟨j + 1, fs1, lA1, lc1, ⟨by omega, hni.add hjl hfits hget hl1⟩, by omega, (Sub.cons rfl rfl (Sub.cons rfl rfl (Sub.cons rfl (by simp) Sub.nil))), rfl⟩
        ·
         refine AWL.strBytesRow rfl rfl (B rfl) rfl st_9 so_71 kd_5 (E rfl rfl) (by exact Nat.le_trans hdj (by unfold maxLen; decide)) (fun A51 c51 => ?_)
         refine nl ?_
         refine AWP.one (i := 6) (by kernel_rfl) rfl ?_
         refine Y1 (Yv.loadRp rfl ag_9 (E rfl rfl) (fun hg => fcn_at (by omega))) ?_
         refine nl ?_
         refine AWP.one (i := 14) (by kernel_rfl) rfl ?_
         refine AWL.callE rfl rfl (B rfl) rfl ce_35 (E rfl rfl) (evsC (E rfl rfl) (evsC (E rfl rfl) (evsC (E rfl rfl) evs0))) (F1 := [.box b1 28 [sv stdin, .sl 2 (files.flatMap fCells)]]) (S1 := (DSt b10 (ds0 fs lA lc stdin) ++ [fileRow ⟨(files.getD j default).1, (files.getD j default).2, A51, c51⟩])) rfl (lay35F b10 (ds0 fs lA lc stdin) files.length hfl (by omega) ⟨(files.getD j default).1, (files.getD j default).2, A51, c51⟩ hdj) ?_
         rintro t52 S52 ⟨rfl, fs1, lA1, lc1, hl1, rfl⟩
         refine nl ?_
         refine AWP.done (by kernel_rfl) ?_
         refine AW.region ?_
         refine Y1 (Yv.move rfl eV) ?_
         refine Y1 (Yv.addN_i64 rfl (E rfl rfl) (E rfl rfl) (fun hg => by omega)) ?_
         refine Y1 (Yv.assign rfl eV) ?_
         refine nl ?_
         refine ⟨j + 1, fs1, lA1, lc1, ⟨by omega, hni.add hjl hfits hget hl1⟩, by omega, (Sub.cons rfl rfl (Sub.cons rfl rfl (Sub.cons rfl (by simp) Sub.nil))), rfl⟩
     ·
      refine Y1 (Yv.loadBox rfl ag_26 (i := 0) rfl (E rfl rfl) rfl) ?_
      refine nl ?_
      refine AWP.take (i := 10) rfl (by kernel_rfl) (by kernel_rfl) (by kernel_rfl) rfl rfl (B rfl) (freeIdxSl rfl ss_26 (by decide) (E rfl rfl) (E rfl rfl) ⟨rfl, by rw [len_fc]; omega⟩) ?_
      refine AWP.take (i := 11) rfl (by kernel_rfl) (by kernel_rfl) (by kernel_rfl) rfl rfl (B rfl) (freeFieldRp rfl fo_46_1 (E rfl rfl)) ?_
      refine AWP.two (i := 2) (j := 12) (by kernel_rfl) rfl rfl ?_ ?_
      ·
       refine Y1 (Yv.loadBox rfl ag_26 (i := 0) rfl (E rfl rfl) rfl) ?_
       refine nl ?_
       refine AWP.take (i := 4) rfl (by kernel_rfl) (by kernel_rfl) (by kernel_rfl) rfl rfl (B rfl) (freeIdxSl rfl ss_26 (by decide) (E rfl rfl) (E rfl rfl) ⟨rfl, by rw [len_fc]; omega⟩) ?_
       refine AWP.take (i := 5) rfl (by kernel_rfl) (by kernel_rfl) (by kernel_rfl) rfl rfl (B rfl) (freeFieldRp rfl fo_46_0 (E rfl rfl)) ?_
       refine AWP.two (i := 6) (j := 12) (by kernel_rfl) rfl rfl ?_ ?_
       ·
        refine Y1 (Yv.loadRp rfl ag_9 (E rfl rfl) (fun hg => fcn_at (by omega))) ?_
        refine nl ?_
        refine AWP.one (i := 12) (by kernel_rfl) rfl ?_
        refine Y1 (Yv.loadRp rfl ag_9 (E rfl rfl) (fun hg => fct_at (by omega))) ?_
        refine nl ?_
        refine AWP.one (i := 13) (by kernel_rfl) rfl ?_
        refine AWL.strBytesRow rfl rfl (B rfl) rfl st_9 so_71 kd_5 (E rfl rfl) (by exact Nat.le_trans hdj (by unfold maxLen; decide)) (fun A51 c51 => ?_)
        refine nl ?_
        refine AWP.one (i := 14) (by kernel_rfl) rfl ?_
        refine AWL.callE rfl rfl (B rfl) rfl ce_35 (E rfl rfl) (evsC (E rfl rfl) (evsC (E rfl rfl) (evsC (E rfl rfl) evs0))) (F1 := [.box b1 28 [sv stdin, .sl 2 (files.flatMap fCells)]]) (S1 := (DSt b10 (ds0 fs lA lc stdin) ++ [fileRow ⟨(files.getD j default).1, (files.getD j default).2, A51, c51⟩])) rfl (lay35F b10 (ds0 fs lA lc stdin) files.length hfl (by omega) ⟨(files.getD j default).1, (files.getD j default).2, A51, c51⟩ hdj) ?_
        rintro t52 S52 ⟨rfl, fs1, lA1, lc1, hl1, rfl⟩
        refine nl ?_
        refine AWP.done (by kernel_rfl) ?_
        refine AW.region ?_
        refine Y1 (Yv.move rfl eV) ?_
        refine Y1 (Yv.addN_i64 rfl (E rfl rfl) (E rfl rfl) (fun hg => by omega)) ?_
        refine Y1 (Yv.assign rfl eV) ?_
        refine nl ?_
        refine ⟨j + 1, fs1, lA1, lc1, ⟨by omega, hni.add hjl hfits hget hl1⟩, by omega, (Sub.cons rfl rfl (Sub.cons rfl rfl (Sub.cons rfl (by simp) Sub.nil))), rfl⟩
       ·
        refine Y1 (Yv.loadRp rfl ag_9 (E rfl rfl) (fun hg => fct_at (by omega))) ?_
        refine nl ?_
        refine AWP.two (i := 6) (j := 13) (by kernel_rfl) rfl rfl ?_ ?_
        ·
         refine Y1 (Yv.loadRp rfl ag_9 (E rfl rfl) (fun hg => fcn_at (by omega))) ?_
         refine nl ?_
         refine AWP.one (i := 13) (by kernel_rfl) rfl ?_
         refine AWL.strBytesRow rfl rfl (B rfl) rfl st_9 so_71 kd_5 (E rfl rfl) (by exact Nat.le_trans hdj (by unfold maxLen; decide)) (fun A51 c51 => ?_)
         refine nl ?_
         refine AWP.one (i := 14) (by kernel_rfl) rfl ?_
         refine AWL.callE rfl rfl (B rfl) rfl ce_35 (E rfl rfl) (evsC (E rfl rfl) (evsC (E rfl rfl) (evsC (E rfl rfl) evs0))) (F1 := [.box b1 28 [sv stdin, .sl 2 (files.flatMap fCells)]]) (S1 := (DSt b10 (ds0 fs lA lc stdin) ++ [fileRow ⟨(files.getD j default).1, (files.getD j default).2, A51, c51⟩])) rfl (lay35F b10 (ds0 fs lA lc stdin) files.length hfl (by omega) ⟨(files.getD j default).1, (files.getD j default).2, A51, c51⟩ hdj) ?_
         rintro t52 S52 ⟨rfl, fs1, lA1, lc1, hl1, rfl⟩
         refine nl ?_
         refine AWP.done (by kernel_rfl) ?_
         refine AW.region ?_
         refine Y1 (Yv.move rfl eV) ?_
         refine Y1 (Yv.addN_i64 rfl (E rfl rfl) (E rfl rfl) (fun hg => by omega)) ?_
         refine Y1 (Yv.assign rfl eV) ?_
         refine nl ?_
         refine ⟨j + 1, fs1, lA1, lc1, ⟨by omega, hni.add hjl hfits hget hl1⟩, by omega, (Sub.cons rfl rfl (Sub.cons rfl rfl (Sub.cons rfl (by simp) Sub.nil))), rfl⟩
        ·
         refine AWL.strBytesRow rfl rfl (B rfl) rfl st_9 so_71 kd_5 (E rfl rfl) (by exact Nat.le_trans hdj (by unfold maxLen; decide)) (fun A51 c51 => ?_)
         refine nl ?_
         refine AWP.one (i := 6) (by kernel_rfl) rfl ?_
         refine Y1 (Yv.loadRp rfl ag_9 (E rfl rfl) (fun hg => fcn_at (by omega))) ?_
         refine nl ?_
         refine AWP.one (i := 14) (by kernel_rfl) rfl ?_
         refine AWL.callE rfl rfl (B rfl) rfl ce_35 (E rfl rfl) (evsC (E rfl rfl) (evsC (E rfl rfl) (evsC (E rfl rfl) evs0))) (F1 := [.box b1 28 [sv stdin, .sl 2 (files.flatMap fCells)]]) (S1 := (DSt b10 (ds0 fs lA lc stdin) ++ [fileRow ⟨(files.getD j default).1, (files.getD j default).2, A51, c51⟩])) rfl (lay35F b10 (ds0 fs lA lc stdin) files.length hfl (by omega) ⟨(files.getD j default).1, (files.getD j default).2, A51, c51⟩ hdj) ?_
         rintro t52 S52 ⟨rfl, fs1, lA1, lc1, hl1, rfl⟩
         refine nl ?_
         refine AWP.done (by kernel_rfl) ?_
         refine AW.region ?_
         refine Y1 (Yv.move rfl eV) ?_
         refine Y1 (Yv.addN_i64 rfl (E rfl rfl) (E rfl rfl) (fun hg => by omega)) ?_
         refine Y1 (Yv.assign rfl eV) ?_
         refine nl ?_
         refine ⟨j + 1, fs1, lA1, lc1, ⟨by omega, hni.add hjl hfits hget hl1⟩, by omega, (Sub.cons rfl rfl (Sub.cons rfl rfl (Sub.cons rfl (by simp) Sub.nil))), rfl⟩
      ·
       refine Y1 (Yv.loadRp rfl ag_9 (E rfl rfl) (fun hg => fct_at (by omega))) ?_
       refine nl ?_
       refine AWP.two (i := 2) (j := 13) (by kernel_rfl) rfl rfl ?_ ?_
       ·
        refine Y1 (Yv.loadBox rfl ag_26 (i := 0) rfl (E rfl rfl) rfl) ?_
        refine nl ?_
        refine AWP.take (i := 4) rfl (by kernel_rfl) (by kernel_rfl) (by kernel_rfl) rfl rfl (B rfl) (freeIdxSl rfl ss_26 (by decide) (E rfl rfl) (E rfl rfl) ⟨rfl, by rw [len_fc]; omega⟩) ?_
        refine AWP.take (i := 5) rfl (by kernel_rfl) (by kernel_rfl) (by kernel_rfl) rfl rfl (B rfl) (freeFieldRp rfl fo_46_0 (E rfl rfl)) ?_
        refine AWP.two (i := 6) (j := 13) (by kernel_rfl) rfl rfl ?_ ?_
        ·
         refine Y1 (Yv.loadRp rfl ag_9 (E rfl rfl) (fun hg => fcn_at (by omega))) ?_
         refine nl ?_
         refine AWP.one (i := 13) (by kernel_rfl) rfl ?_
         refine AWL.strBytesRow rfl rfl (B rfl) rfl st_9 so_71 kd_5 (E rfl rfl) (by exact Nat.le_trans hdj (by unfold maxLen; decide)) (fun A51 c51 => ?_)
         refine nl ?_
         refine AWP.one (i := 14) (by kernel_rfl) rfl ?_
         refine AWL.callE rfl rfl (B rfl) rfl ce_35 (E rfl rfl) (evsC (E rfl rfl) (evsC (E rfl rfl) (evsC (E rfl rfl) evs0))) (F1 := [.box b1 28 [sv stdin, .sl 2 (files.flatMap fCells)]]) (S1 := (DSt b10 (ds0 fs lA lc stdin) ++ [fileRow ⟨(files.getD j default).1, (files.getD j default).2, A51, c51⟩])) rfl (lay35F b10 (ds0 fs lA lc stdin) files.length hfl (by omega) ⟨(files.getD j default).1, (files.getD j default).2, A51, c51⟩ hdj) ?_
         rintro t52 S52 ⟨rfl, fs1, lA1, lc1, hl1, rfl⟩
         refine nl ?_
         refine AWP.done (by kernel_rfl) ?_
         refine AW.region ?_
         refine Y1 (Yv.move rfl eV) ?_
         refine Y1 (Yv.addN_i64 rfl (E rfl rfl) (E rfl rfl) (fun hg => by omega)) ?_
         refine Y1 (Yv.assign rfl eV) ?_
         refine nl ?_
         refine ⟨j + 1, fs1, lA1, lc1, ⟨by omega, hni.add hjl hfits hget hl1⟩, by omega, (Sub.cons rfl rfl (Sub.cons rfl rfl (Sub.cons rfl (by simp) Sub.nil))), rfl⟩
        ·
         refine AWL.strBytesRow rfl rfl (B rfl) rfl st_9 so_71 kd_5 (E rfl rfl) (by exact Nat.le_trans hdj (by unfold maxLen; decide)) (fun A51 c51 => ?_)
         refine nl ?_
         refine AWP.one (i := 6) (by kernel_rfl) rfl ?_
         refine Y1 (Yv.loadRp rfl ag_9 (E rfl rfl) (fun hg => fcn_at (by omega))) ?_
         refine nl ?_
         refine AWP.one (i := 14) (by kernel_rfl) rfl ?_
         refine AWL.callE rfl rfl (B rfl) rfl ce_35 (E rfl rfl) (evsC (E rfl rfl) (evsC (E rfl rfl) (evsC (E rfl rfl) evs0))) (F1 := [.box b1 28 [sv stdin, .sl 2 (files.flatMap fCells)]]) (S1 := (DSt b10 (ds0 fs lA lc stdin) ++ [fileRow ⟨(files.getD j default).1, (files.getD j default).2, A51, c51⟩])) rfl (lay35F b10 (ds0 fs lA lc stdin) files.length hfl (by omega) ⟨(files.getD j default).1, (files.getD j default).2, A51, c51⟩ hdj) ?_
         rintro t52 S52 ⟨rfl, fs1, lA1, lc1, hl1, rfl⟩
         refine nl ?_
         refine AWP.done (by kernel_rfl) ?_
         refine AW.region ?_
         refine Y1 (Yv.move rfl eV) ?_
         refine Y1 (Yv.addN_i64 rfl (E rfl rfl) (E rfl rfl) (fun hg => by omega)) ?_
         refine Y1 (Yv.assign rfl eV) ?_
         refine nl ?_
         refine ⟨j + 1, fs1, lA1, lc1, ⟨by omega, hni.add hjl hfits hget hl1⟩, by omega, (Sub.cons rfl rfl (Sub.cons rfl rfl (Sub.cons rfl (by simp) Sub.nil))), rfl⟩
       ·
        refine AWL.strBytesRow rfl rfl (B rfl) rfl st_9 so_71 kd_5 (E rfl rfl) (by exact Nat.le_trans hdj (by unfold maxLen; decide)) (fun A51 c51 => ?_)
        refine nl ?_
        refine AWP.one (i := 2) (by kernel_rfl) rfl ?_
        refine Y1 (Yv.loadBox rfl ag_26 (i := 0) rfl (E rfl rfl) rfl) ?_
        refine nl ?_
        refine AWP.one (i := 4) (by kernel_rfl) rfl ?_
        refine Y1 (Yv.indexSl rfl ss_26 (B rfl) (E rfl rfl) (E rfl rfl) (fun hg => ⟨rfl, (by first | omega | (simp only [len_fc, len_ev]; omega))⟩)) ?_
        refine nl ?_
        refine AWP.one (i := 5) (by kernel_rfl) rfl ?_
        refine Y1 (Yv.fieldRp rfl fo_46_0 (E rfl rfl)) ?_
        refine nl ?_
        refine AWP.one (i := 6) (by kernel_rfl) rfl ?_
        refine Y1 (Yv.loadRp rfl ag_9 (E rfl rfl) (fun hg => fcn_at (by omega))) ?_
        refine nl ?_
        refine AWP.one (i := 14) (by kernel_rfl) rfl ?_
        refine AWL.callE rfl rfl (B rfl) rfl ce_35 (E rfl rfl) (evsC (E rfl rfl) (evsC (E rfl rfl) (evsC (E rfl rfl) evs0))) (F1 := [.box b1 28 [sv stdin, .sl 2 (files.flatMap fCells)]]) (S1 := (DSt b10 (ds0 fs lA lc stdin) ++ [fileRow ⟨(files.getD j default).1, (files.getD j default).2, A51, c51⟩])) rfl (lay35F b10 (ds0 fs lA lc stdin) files.length hfl (by omega) ⟨(files.getD j default).1, (files.getD j default).2, A51, c51⟩ hdj) ?_
        rintro t52 S52 ⟨rfl, fs1, lA1, lc1, hl1, rfl⟩
        refine nl ?_
        refine AWP.done (by kernel_rfl) ?_
        refine AW.region ?_
        refine Y1 (Yv.move rfl eV) ?_
        refine Y1 (Yv.addN_i64 rfl (E rfl rfl) (E rfl rfl) (fun hg => by omega)) ?_
        refine Y1 (Yv.assign rfl eV) ?_
        refine nl ?_
        refine ⟨j + 1, fs1, lA1, lc1, ⟨by omega, hni.add hjl hfits hget hl1⟩, by omega, (Sub.cons rfl rfl (Sub.cons rfl rfl (Sub.cons rfl (by simp) Sub.nil))), rfl⟩
    try replace h1f := of_decide_eq_false h1f
    have hno : fitsB (files.getD j default).1 = false ∨ ¬ getP (files.getD j default).1 (fs.map nb) = none := by
      rw [Bool.and_eq_false_iff, ← fits_eq] at h1f
      rcases h1f with h | h
      · exact .inl h
      · right
        intro hx
        have h2 := of_decide_eq_false h
        have h3 : ¬ findP (files.getD j default).1 (fs.map nb) < 0 := h2
        rcases findP_get (name := (files.getD j default).1) (l := fs.map nb) with ⟨h4, _⟩ | ⟨q, _, _, _, h4, _⟩
        · rw [h4] at h3; exact h3 (by decide)
        · rw [hx] at h4; cases h4
    refine AW.skip ?_
    refine AW.region ?_
    refine Y1 (Yv.move rfl eV) ?_
    refine Y1 (Yv.addN_i64 rfl (E rfl rfl) (E rfl rfl) (fun hg => by omega)) ?_
    refine Y1 (Yv.assign rfl eV) ?_
    refine nl ?_
    refine ⟨j + 1, fs, lA, lc, ⟨by omega, hni.skip hjl hno⟩, by omega, (Sub.cons rfl rfl (Sub.cons rfl rfl (Sub.cons rfl (by simp) Sub.nil))), rfl⟩
   try replace h0f := of_decide_eq_false h0f
   refine AW.exit ?_
   refine AW.rseq ?_
   refine Y1 (Yv.move rfl eV) ?_
   refine AWL.makeRow (n := 19) (c := 19) rfl rfl (B rfl) rfl el_80 (E rfl rfl) (E rfl rfl) (by decide) (by decide) (by unfold maxLen; decide) (fun A54 => ?_)
   refine Y1 (Yv.nilChk rfl eV) ?_
   refine Y1 (Yv.fieldBox rfl fo_82_2 eV) ?_
   refine AWL.storeBox (i := 1) rfl rfl rfl ag_80 rfl (E rfl rfl) (E rfl rfl) rfl rfl (Nat.le_of_ble_eq_true rfl) ?_
   refine nl ?_
   refine AW.dropAt 0 ?_
   refine AW.dropAt 2 ?_
   refine AW.perm (S' := DSt b10 { (ds0 fs lA lc stdin) with opn := opnZ, dA := A54, dc := 19 }) (new_perm _ _ _ _ _) ?_
   refine AW.rseq ?_
   refine Y1 (Yv.move rfl eV) ?_
   refine Y1 (Yv.nilChk rfl eV) ?_
   refine Y1 (Yv.fieldBox rfl fo_82_2 eV) ?_
   refine Y1 (Yv.loadBox rfl ag_80 (i := 0) rfl (E rfl rfl) rfl) ?_
   refine Y1 (Yv.indexRow (j := 0) rfl ss_80 (i := 2) rfl (E rfl rfl) (E rfl rfl) (fun hg => ⟨rfl, by show (0 : Nat) < 19; decide⟩)) ?_
   refine Y1 (Yv.fieldEp rfl fo_86_0 (E rfl rfl)) ?_
   refine AWL.storeEp1 (i := 2) rfl rfl rfl ag_3 rfl (E rfl rfl) (E rfl rfl) rfl rfl (by exact Nat.le_of_ble_eq_true rfl) ?_
   refine nl ?_
   refine AW.rseq ?_
   refine Y1 (Yv.move rfl eV) ?_
   refine Y1 (Yv.nilChk rfl eV) ?_
   refine Y1 (Yv.fieldBox rfl fo_82_2 eV) ?_
   refine Y1 (Yv.loadBox rfl ag_80 (i := 0) rfl (E rfl rfl) rfl) ?_
   refine Y1 (Yv.indexRow (j := 1) rfl ss_80 (i := 2) rfl (E rfl rfl) (E rfl rfl) (fun hg => ⟨rfl, by show (1 : Nat) < 19; decide⟩)) ?_
   refine Y1 (Yv.fieldEp rfl fo_86_0 (E rfl rfl)) ?_
   refine AWL.storeEp1 (i := 2) rfl rfl rfl ag_3 rfl (E rfl rfl) (E rfl rfl) rfl rfl (by exact Nat.le_of_ble_eq_true rfl) ?_
   refine nl ?_
   refine AW.rseq ?_
   refine Y1 (Yv.move rfl eV) ?_
   refine Y1 (Yv.nilChk rfl eV) ?_
   refine Y1 (Yv.fieldBox rfl fo_82_2 eV) ?_
   refine Y1 (Yv.loadBox rfl ag_80 (i := 0) rfl (E rfl rfl) rfl) ?_
   refine Y1 (Yv.indexRow (j := 2) rfl ss_80 (i := 2) rfl (E rfl rfl) (E rfl rfl) (fun hg => ⟨rfl, by show (2 : Nat) < 19; decide⟩)) ?_
   refine Y1 (Yv.fieldEp rfl fo_86_0 (E rfl rfl)) ?_
   refine AWL.storeEp1 (i := 2) rfl rfl rfl ag_3 rfl (E rfl rfl) (E rfl rfl) rfl rfl (by exact Nat.le_of_ble_eq_true rfl) ?_
   refine nl ?_
   refine AW.eqS (S' := DSt b10 { (ds0 fs lA lc stdin) with opn := opn0, dA := A54, dc := 19 }) rfl ?_
   refine AW.rseq ?_
   refine Y1 (Yv.move rfl eV) ?_
   refine Y1 (Yv.assign rfl eV) ?_
   refine nl ?_
   refine AW.ret (retI (.tmp rfl .nil) ?_)
   refine ⟨b10, { (ds0 fs lA lc stdin) with opn := opn0, dA := A54, dc := 19 }, rfl, rfl, rfl, rfl, rfl, ?_⟩
   have h := hni
   rw [List.take_of_length_le (by omega)] at h
   exact h

end Go.Proofs.Ytmiggpnkicdijaa

namespace Go.Proofs.Ytmiggpnkicdijaa
open Go Go.RowKit
def rdG (all : List UInt8) (g : Nat) (n : Int) : List UInt8 := (all.drop g).take n.toNat
theorem rdG_len (all : List UInt8) (g : Nat) (n : Int) : (rdG all g n).length = min n.toNat (all.length - g) := by simp [rdG]
theorem take_mn {l : List UInt8} {N : Nat} : (l.drop 0).take (min N l.length - 0) = l.take N := by
  rw [Nat.sub_zero, List.drop_zero]
  rcases Nat.le_total N l.length with h | h
  · rw [Nat.min_eq_left h]
  · rw [Nat.min_eq_right h, List.take_length, List.take_of_length_le h]
theorem drop_tl {l : List UInt8} {N : Nat} : (l.drop (l.take N).length).take (l.length - (l.take N).length) = l.drop N := by
  rw [List.take_of_length_le (by rw [List.length_drop]; exact Nat.le_refl _), List.length_take]
  rcases Nat.le_total N l.length with h | h
  · rw [Nat.min_eq_left h]
  · rw [Nat.min_eq_right h, List.drop_length, List.drop_of_length_le h]
end Go.Proofs.Ytmiggpnkicdijaa

namespace Go.Proofs.Ytmiggpnkicdijaa
open Go Go.RowKit
set_option linter.unusedVariables false
set_option linter.unnecessarySimpa false
set_option linter.unusedSimpArgs false

set_option maxHeartbeats 400000 in
theorem at29B (b : Nat) (fd : Int) (hfd : fd < 0 ∨ 19 ≤ fd) :
    ACalls Try.prog 29 [wp b, .v (.int .i64 fd)] [] fun t S => ∃ b', t = .v (.pointer (some ⟨b', 0, none⟩)) ∧ S = [.box b' 67 (descCells zd)] := by
  refine ACalls.intro Try.func29 rfl Try.ntmps29 (Nat.le_of_ble_eq_true rfl) rfl fun X w0 => ?_
  refine AW.rseq ?_
  refine Y1 (Yv.assign rfl eV) ?_
  refine nl ?_
  refine AW.seq ?_
  refine AW.rseq ?_
  refine Y1 (Yv.move rfl eV) ?_
  refine Y1 (Yv.eqlNilP rfl pn_24 (E rfl rfl)) ?_
  refine Y1 (Yv.move rfl eV) ?_
  refine AWL.ygF rfl rfl rfl rfl (B rfl) (Yv.move rfl (E rfl rfl)) ?_
  refine AWL.ygF rfl rfl rfl rfl (B rfl) (Yv.lss rfl (Eg rfl rfl id) (E rfl rfl)) ?_
  refine Y1 (Yv.pickOr (t := .const (.bool true)) rfl (E rfl rfl) (Eg rfl rfl id)) ?_
  refine Y1 (Yv.move rfl eV) ?_
  refine AWL.ygF rfl rfl rfl rfl (B rfl) (Yv.move rfl (E rfl rfl)) ?_
  refine AWL.ygF rfl rfl rfl rfl (B rfl) (Yv.geq rfl (Eg rfl rfl id) (E rfl rfl)) ?_
  refine Y1 (Yv.pickOr (t := .const (.bool true)) rfl (E rfl rfl) (Eg rfl rfl id)) ?_
  refine nl ?_
  refine AW.cond rfl (fun h0t => ?_) (fun h0f => ?_)
  ·
   try replace h0t := of_decide_eq_true h0t
   refine AW.rseq ?_
   refine Y1 (Yv.buildS rfl sh_67 evp0 (fun _ => rfl)) ?_
   refine AWL.boxOp rfl rfl (B rfl) rfl (E rfl rfl) rfl (fun b16 => ?_)
   refine Y1 (Yv.assign rfl eV) ?_
   refine nl ?_
   refine AW.ret (retI (.tmp rfl .nil) ?_)
   exact ⟨_, rfl, rfl⟩
  try replace h0f := of_decide_eq_false h0f
  simp only [Bool.or_eq_true, Bool.and_eq_true, Bool.or_eq_false_iff, Bool.and_eq_false_iff, Bool.not_eq_true', Bool.not_eq_false', decide_eq_true_eq, decide_eq_false_iff_not, Decidable.not_not] at h0f
  exfalso
  omega

set_option maxHeartbeats 400000 in
theorem SysClose18B (b m : Nat) (ws : WS) (fd : Int) (hfd : fd < 0 ∨ 19 ≤ fd) :
    ACalls Try.prog 18 [wp b, .v (.int .i64 fd)] (WSt b m ws) (fun t S => t = .v (.int .i64 (-9)) ∧ S = WSt b m ws) := by
  refine ACalls.intro Try.func18 rfl Try.ntmps18 (Nat.le_of_ble_eq_true rfl) rfl fun X w0 => ?_
  refine AW.rseq ?_
  refine Y1 (Yv.assign rfl eV) ?_
  refine nl ?_
  refine AW.rseq ?_
  refine Y1 (Yv.move rfl eV) ?_
  refine Y1 (Yv.move rfl eV) ?_
  refine C1 rfl ce_29 (E rfl rfl) (evsC (E rfl rfl) (evsC (E rfl rfl) evs0)) (S1 := []) (S2 := _) rfl (at29B b fd hfd) ?_
  rintro t8 S8 ⟨b', rfl, rfl⟩
  refine Y1 (Yv.assign rfl eV) ?_
  refine nl ?_
  refine AW.seq ?_
  refine AW.rseq ?_
  refine Y1 (Yv.move rfl eV) ?_
  refine Y1 (Yv.nilChk rfl eV) ?_
  refine Y1 (Yv.fieldBox rfl fo_67_0 eV) ?_
  refine Y1 (Yv.loadBox rfl ag_3 (i := 0) rfl (E rfl rfl) rfl) ?_
  refine Y1 (Yv.eql rfl eV eV) ?_
  refine nl ?_
  refine AW.dropAt 0 ?_
  refine AW.cond rfl (fun h0t => ?_) (fun h0f => ?_)
  ·
   try replace h0t := of_decide_eq_true h0t
   refine AW.rseq ?_
   refine Y1 (Yv.assign rfl eV) ?_
   refine nl ?_
   refine AW.ret (retI (.tmp rfl .nil) ?_)
   exact ⟨rfl, rfl⟩
  try replace h0f := of_decide_eq_false h0f
  exact absurd rfl h0f

set_option maxHeartbeats 400000 in
theorem SysRead20B (b m : Nat) (ws : WS) (fd : Int) (hfd : fd < 0 ∨ 19 ≤ fd) (k : Int) :
    ACalls Try.prog 20 [wp b, .v (.int .i64 fd), .v (.int .u64 k)] (WSt b m ws) (fun t S => t = .tup [sv [], .v (.int .i64 (-9))] ∧ S = WSt b m ws) := by
  refine ACalls.intro Try.func20 rfl Try.ntmps20 (Nat.le_of_ble_eq_true rfl) rfl fun X w0 => ?_
  refine AW.rseq ?_
  refine Y1 (Yv.assign rfl eV) ?_
  refine Y1 (Yv.assign rfl eV) ?_
  refine nl ?_
  refine AW.rseq ?_
  refine Y1 (Yv.move rfl eV) ?_
  refine Y1 (Yv.move rfl eV) ?_
  refine C1 rfl ce_29 (E rfl rfl) (evsC (E rfl rfl) (evsC (E rfl rfl) evs0)) (S1 := []) (S2 := _) rfl (at29B b fd hfd) ?_
  rintro t13 S13 ⟨b', rfl, rfl⟩
  refine Y1 (Yv.assign rfl eV) ?_
  refine nl ?_
  refine AW.seq ?_
  refine AW.rseq ?_
  refine Y1 (Yv.move rfl eV) ?_
  refine Y1 (Yv.nilChk rfl eV) ?_
  refine Y1 (Yv.fieldBox rfl fo_67_0 eV) ?_
  refine Y1 (Yv.loadBox rfl ag_3 (i := 0) rfl (E rfl rfl) rfl) ?_
  refine nl ?_
  refine AW.dropAt 0 ?_
  refine AW.block ?_
  refine AW.rseq ?_
  refine Y1 (Yv.eql rfl eV eV) ?_
  refine Y1 (Yv.assign rfl eV) ?_
  refine nl ?_
  refine AW.cond rfl (fun h0t => ?_) (fun h0f => ?_)
  ·
   try replace h0t := of_decide_eq_true h0t
   cases h0t
  try replace h0f := of_decide_eq_false h0f
  refine AW.rseq ?_
  refine Y1 (Yv.eql rfl eV eV) ?_
  refine Y1 (Yv.assign rfl eV) ?_
  refine nl ?_
  refine AW.cond rfl (fun h1t => ?_) (fun h1f => ?_)
  ·
   try replace h1t := of_decide_eq_true h1t
   cases h1t
  try replace h1f := of_decide_eq_false h1f
  refine AW.skip ?_
  refine AW.rseq ?_
  refine Y1 (Yv.assign rfl eV) ?_
  refine Y1 (Yv.assign rfl eV) ?_
  refine nl ?_
  refine AW.ret (retI (.tmp rfl (.tmp rfl .nil)) ?_)
  exact ⟨rfl, rfl⟩

set_option maxHeartbeats 400000 in
theorem SysWrite13B (b m : Nat) (ws : WS) (fd : Int) (hfd : fd < 0 ∨ 19 ≤ fd) (s : List UInt8) :
    ACalls Try.prog 13 [wp b, .v (.int .i64 fd), sv s] (WSt b m ws) (fun t S => t = .v (.int .i64 (-9)) ∧ S = WSt b m ws) := by
  refine ACalls.intro Try.func13 rfl Try.ntmps13 (Nat.le_of_ble_eq_true rfl) rfl fun X w0 => ?_
  refine AW.rseq ?_
  refine Y1 (Yv.assign rfl eV) ?_
  refine nl ?_
  refine AW.rseq ?_
  refine Y1 (Yv.move rfl eV) ?_
  refine Y1 (Yv.move rfl eV) ?_
  refine C1 rfl ce_29 (E rfl rfl) (evsC (E rfl rfl) (evsC (E rfl rfl) evs0)) (S1 := []) (S2 := _) rfl (at29B b fd hfd) ?_
  rintro t12 S12 ⟨b', rfl, rfl⟩
  refine Y1 (Yv.assign rfl eV) ?_
  refine nl ?_
  refine AW.seq ?_
  refine AW.rseq ?_
  refine Y1 (Yv.move rfl eV) ?_
  refine Y1 (Yv.nilChk rfl eV) ?_
  refine Y1 (Yv.fieldBox rfl fo_67_0 eV) ?_
  refine Y1 (Yv.loadBox rfl ag_3 (i := 0) rfl (E rfl rfl) rfl) ?_
  refine nl ?_
  refine AW.dropAt 0 ?_
  refine AW.block ?_
  refine AW.rseq ?_
  refine Y1 (Yv.eql rfl eV eV) ?_
  refine Y1 (Yv.assign rfl eV) ?_
  refine nl ?_
  refine AW.cond rfl (fun h0t => ?_) (fun h0f => ?_)
  ·
   try replace h0t := of_decide_eq_true h0t
   cases h0t
  try replace h0f := of_decide_eq_false h0f
  refine AW.rseq ?_
  refine Y1 (Yv.eql rfl eV eV) ?_
  refine Y1 (Yv.assign rfl eV) ?_
  refine nl ?_
  refine AW.cond rfl (fun h1t => ?_) (fun h1f => ?_)
  ·
   try replace h1t := of_decide_eq_true h1t
   cases h1t
  try replace h1f := of_decide_eq_false h1f
  refine AW.rseq ?_
  refine Y1 (Yv.eql rfl eV eV) ?_
  refine Y1 (Yv.assign rfl eV) ?_
  refine nl ?_
  refine AW.cond rfl (fun h2t => ?_) (fun h2f => ?_)
  ·
   try replace h2t := of_decide_eq_true h2t
   cases h2t
  try replace h2f := of_decide_eq_false h2f
  refine AW.rseq ?_
  refine Y1 (Yv.assign rfl eV) ?_
  refine nl ?_
  refine AW.ret (retI (.tmp rfl .nil) ?_)
  exact ⟨rfl, rfl⟩

set_option maxHeartbeats 400000 in
theorem SysWrite13_0 (b m : Nat) (ws : WS) (j n : Nat) (hj : j < 19) (hw : WB n ws) (hk : ¬ (ws.opn.getD j default).kind = 2 ∧ ¬ (ws.opn.getD j default).kind = 3 ∧ ¬ (ws.opn.getD j default).kind = 5) (s : List UInt8) :
    ACalls Try.prog 13 [wp b, .v (.int .i64 (j : Int)), sv s] (WSt b m ws) (fun t S => t = .v (.int .i64 (-9)) ∧ S = WSt b m ws) := by
  obtain ⟨ho, htr, htx, hfl, hpl, hsi⟩ := hw
  refine ACalls.intro Try.func13 rfl Try.ntmps13 (Nat.le_of_ble_eq_true rfl) rfl fun X w0 => ?_
  refine AW.rseq ?_
  refine Y1 (Yv.assign rfl eV) ?_
  refine nl ?_
  refine AW.rseq ?_
  refine Y1 (Yv.move rfl eV) ?_
  refine Y1 (Yv.move rfl eV) ?_
  refine AWL.callP rfl rfl (B rfl) rfl ce_29 (E rfl rfl) (evsC (E rfl rfl) (evsC (E rfl rfl) evs0)) (at29 b j hj) (fun t S h => h) ?_
  refine Y1 (Yv.assign rfl eV) ?_
  refine nl ?_
  refine AW.seq ?_
  refine AW.rseq ?_
  refine Y1 (Yv.move rfl eV) ?_
  refine Y1 (Yv.nilChk rfl eV) ?_
  refine Y1 (Yv.fieldBox rfl fo_67_0 eV) ?_
  refine Y1 (Yv.loadBox rfl ag_3 (i := 0) rfl (E rfl rfl) (kind_at (by omega))) ?_
  refine nl ?_
  refine AW.block ?_
  refine AW.rseq ?_
  refine Y1 (Yv.eql rfl eV eV) ?_
  refine Y1 (Yv.assign rfl eV) ?_
  refine nl ?_
  refine AW.cond rfl (fun h0t => ?_) (fun h0f => ?_)
  ·
   try replace h0t := of_decide_eq_true h0t
   exact absurd h0t hk.1
  try replace h0f := of_decide_eq_false h0f
  refine AW.rseq ?_
  refine Y1 (Yv.eql rfl eV eV) ?_
  refine Y1 (Yv.assign rfl eV) ?_
  refine nl ?_
  refine AW.cond rfl (fun h1t => ?_) (fun h1f => ?_)
  ·
   try replace h1t := of_decide_eq_true h1t
   exact absurd h1t hk.2.1
  try replace h1f := of_decide_eq_false h1f
  refine AW.rseq ?_
  refine Y1 (Yv.eql rfl eV eV) ?_
  refine Y1 (Yv.assign rfl eV) ?_
  refine nl ?_
  refine AW.cond rfl (fun h2t => ?_) (fun h2f => ?_)
  ·
   try replace h2t := of_decide_eq_true h2t
   exact absurd h2t hk.2.2
  try replace h2f := of_decide_eq_false h2f
  refine AW.rseq ?_
  refine Y1 (Yv.assign rfl eV) ?_
  refine nl ?_
  refine AW.ret (retI (.tmp rfl .nil) ?_)
  exact ⟨rfl, rfl⟩

set_option maxHeartbeats 400000 in
theorem SysRead20_0 (b m : Nat) (ws : WS) (j n : Nat) (hj : j < 19) (hw : WB n ws) (hk : ¬ (ws.opn.getD j default).kind = 1 ∧ ¬ (ws.opn.getD j default).kind = 4) (k : Int) :
    ACalls Try.prog 20 [wp b, .v (.int .i64 (j : Int)), .v (.int .u64 k)] (WSt b m ws) (fun t S => t = .tup [sv [], .v (.int .i64 (-9))] ∧ S = WSt b m ws) := by
  obtain ⟨ho, htr, htx, hfl, hpl, hsi⟩ := hw
  refine ACalls.intro Try.func20 rfl Try.ntmps20 (Nat.le_of_ble_eq_true rfl) rfl fun X w0 => ?_
  refine AW.rseq ?_
  refine Y1 (Yv.assign rfl eV) ?_
  refine Y1 (Yv.assign rfl eV) ?_
  refine nl ?_
  refine AW.rseq ?_
  refine Y1 (Yv.move rfl eV) ?_
  refine Y1 (Yv.move rfl eV) ?_
  refine AWL.callP rfl rfl (B rfl) rfl ce_29 (E rfl rfl) (evsC (E rfl rfl) (evsC (E rfl rfl) evs0)) (at29 b j hj) (fun t S h => h) ?_
  refine Y1 (Yv.assign rfl eV) ?_
  refine nl ?_
  refine AW.seq ?_
  refine AW.rseq ?_
  refine Y1 (Yv.move rfl eV) ?_
  refine Y1 (Yv.nilChk rfl eV) ?_
  refine Y1 (Yv.fieldBox rfl fo_67_0 eV) ?_
  refine Y1 (Yv.loadBox rfl ag_3 (i := 0) rfl (E rfl rfl) (kind_at (by omega))) ?_
  refine nl ?_
  refine AW.block ?_
  refine AW.rseq ?_
  refine Y1 (Yv.eql rfl eV eV) ?_
  refine Y1 (Yv.assign rfl eV) ?_
  refine nl ?_
  refine AW.cond rfl (fun h0t => ?_) (fun h0f => ?_)
  ·
   try replace h0t := of_decide_eq_true h0t
   exact absurd h0t hk.1
  try replace h0f := of_decide_eq_false h0f
  refine AW.rseq ?_
  refine Y1 (Yv.eql rfl eV eV) ?_
  refine Y1 (Yv.assign rfl eV) ?_
  refine nl ?_
  refine AW.cond rfl (fun h1t => ?_) (fun h1f => ?_)
  ·
   try replace h1t := of_decide_eq_true h1t
   exact absurd h1t hk.2
  try replace h1f := of_decide_eq_false h1f
  refine AW.skip ?_
  refine AW.rseq ?_
  refine Y1 (Yv.assign rfl eV) ?_
  refine Y1 (Yv.assign rfl eV) ?_
  refine nl ?_
  refine AW.ret (retI (.tmp rfl (.tmp rfl .nil)) ?_)
  exact ⟨rfl, rfl⟩

set_option maxHeartbeats 400000 in
theorem SysRead20_1 (b m : Nat) (ws : WS) (j n : Nat) (hj : j < 19) (hw : WB n ws) (hn : n ≤ 549755813888) (hk : (ws.opn.getD j default).kind = 1) (N : Nat) (hN : N ≤ 18446744073709551615) :
    ACalls Try.prog 20 [wp b, .v (.int .i64 (j : Int)), .v (.int .u64 (N : Int))] (WSt b m ws) (fun t S => t = .tup [sv (ws.stdin.take N), .v (.int .i64 ((ws.stdin.take N).length : Int))] ∧ S = WSt b m { ws with stdin := ws.stdin.drop N }) := by
  obtain ⟨ho, htr, htx, hfl, hpl, hsi⟩ := hw
  refine ACalls.intro Try.func20 rfl Try.ntmps20 (Nat.le_of_ble_eq_true rfl) rfl fun X w0 => ?_
  refine AW.rseq ?_
  refine Y1 (Yv.assign rfl eV) ?_
  refine Y1 (Yv.assign rfl eV) ?_
  refine nl ?_
  refine AW.rseq ?_
  refine Y1 (Yv.move rfl eV) ?_
  refine Y1 (Yv.move rfl eV) ?_
  refine AWL.callP rfl rfl (B rfl) rfl ce_29 (E rfl rfl) (evsC (E rfl rfl) (evsC (E rfl rfl) evs0)) (at29 b j hj) (fun t S h => h) ?_
  refine Y1 (Yv.assign rfl eV) ?_
  refine nl ?_
  refine AW.seq ?_
  refine AW.rseq ?_
  refine Y1 (Yv.move rfl eV) ?_
  refine Y1 (Yv.nilChk rfl eV) ?_
  refine Y1 (Yv.fieldBox rfl fo_67_0 eV) ?_
  refine Y1 (Yv.loadBox rfl ag_3 (i := 0) rfl (E rfl rfl) (kind_at (by omega))) ?_
  refine nl ?_
  refine AW.block ?_
  refine AW.rseq ?_
  refine Y1 (Yv.eql rfl eV eV) ?_
  refine Y1 (Yv.assign rfl eV) ?_
  refine nl ?_
  refine AW.cond rfl (fun h0t => ?_) (fun h0f => ?_)
  ·
   try replace h0t := of_decide_eq_true h0t
   refine AW.rseqQ rfl (by kernel_rfl) ?_
   refine AWQ.y rfl rfl (B rfl) (Yv.move rfl (E rfl rfl)) ?_
   refine AWQ.y rfl rfl (B rfl) (Yv.nilChk rfl (E rfl rfl)) ?_
   refine AWQ.y rfl rfl (B rfl) (Yv.fieldBox rfl fo_70_1 (E rfl rfl)) ?_
   refine AWQ.y rfl rfl (B rfl) (Yv.loadBox rfl ag_9 (i := 0) rfl (E rfl rfl) rfl) ?_
   refine AWQ.y rfl rfl (B rfl) (Yv.move rfl (E rfl rfl)) ?_
   refine AWQ.y rfl rfl (B rfl) (Yv.move rfl (E rfl rfl)) ?_
   refine AWQ.y rfl rfl (B rfl) (Yv.nilChk rfl (E rfl rfl)) ?_
   refine AWQ.y rfl rfl (B rfl) (Yv.fieldBox rfl fo_70_1 (E rfl rfl)) ?_
   refine AWQ.y rfl rfl (B rfl) (Yv.loadBox rfl ag_9 (i := 0) rfl (E rfl rfl) rfl) ?_
   refine AWQ.y rfl rfl (B rfl) (Yv.lenL rfl st_9 (E rfl rfl)) ?_
   refine AWQ.y rfl rfl (B rfl) (Yv.convN_u64 rfl Try.underlying3 kd_51 (E rfl rfl) (fun hg => by omega)) ?_
   refine AWQ.y rfl rfl (B rfl) (Yv.min2 rfl (E rfl rfl) (E rfl rfl)) ?_
   have e11 : (if (ws.stdin.length : Int) < (N : Int) then (ws.stdin.length : Int) else (N : Int)) = (((min N ws.stdin.length) : Nat) : Int) := by split <;> omega
   rw [e11]
   refine AWQ.y rfl rfl (B rfl) (Yv.sliceL rfl st_9 (E rfl rfl) Bound.none_ (Bound.some_ (E rfl rfl) (fun hg => rfl)) (fun hg => ⟨by omega, by omega⟩)) ?_
   rw [take_mn]
   have htl : (ws.stdin.take N).length ≤ ws.stdin.length := by rw [List.length_take]; omega
   refine AWQ.y rfl rfl (B rfl) (Yv.assign rfl (E rfl rfl)) ?_
   refine AWQ.nil ?_
   refine AW.rseq ?_
   refine Y1 (Yv.move rfl eV) ?_
   refine Y1 (Yv.move rfl eV) ?_
   refine Y1 (Yv.nilChk rfl eV) ?_
   refine Y1 (Yv.fieldBox rfl fo_70_1 eV) ?_
   refine Y1 (Yv.loadBox rfl ag_9 (i := 0) rfl (E rfl rfl) rfl) ?_
   refine Y1 (Yv.move rfl eV) ?_
   refine Y1 (Yv.lenL rfl st_9 (E rfl rfl)) ?_
   refine Y1 (Yv.sliceL rfl st_9 (E rfl rfl) (Bound.some_ (E rfl rfl) (fun hg => rfl)) Bound.none_ (fun hg => ⟨by omega, by omega⟩)) ?_
   refine Y1 (Yv.nilChk rfl eV) ?_
   refine Y1 (Yv.fieldBox rfl fo_70_1 eV) ?_
   refine AWL.storeBox (i := 0) rfl rfl rfl ag_9 rfl (E rfl rfl) (E rfl rfl) rfl rfl (Nat.le_of_ble_eq_true rfl) ?_
   refine nl ?_
   refine AW.rseq ?_
   refine Y1 (Yv.move rfl eV) ?_
   refine Y1 (Yv.move rfl eV) ?_
   refine Y1 (Yv.lenL rfl st_9 (E rfl rfl)) ?_
   refine Y1 (Yv.assign rfl eV) ?_
   refine Y1 (Yv.assign rfl eV) ?_
   refine nl ?_
   refine AW.ret (retI (.tmp rfl (.tmp rfl .nil)) ?_)
   exact ⟨rfl, congrArg (fun z => WSt b m { ws with stdin := z }) drop_tl⟩
  try replace h0f := of_decide_eq_false h0f
  exact absurd hk h0f

set_option maxHeartbeats 1000000 in
theorem SysRead20G (b m : Nat) (ws : WS) (j q : Nat) (k : Int) (n : Nat) (hj : j < 19) (hk : (ws.opn.getD j default).kind = 4) (hq : q < ws.files.length) (hu : Uniq ws.files) (hnm : (ws.opn.getD j default).name = (ws.files.getD q default).name) (hw : WB n ws) (hn : n ≤ 549755813888) (h0 : 0 ≤ k) (h1 : k ≤ 18446744073709551615) :
    ACalls Try.prog 20 [wp b, .v (.int .i64 (j : Int)), .v (.int .u64 k)] (WSt b m ws) (fun t S => t = .tup [sv (rdG (ws.files.getD q default).bytes (ws.opn.getD j default).place k), .v (.int .i64 ((rdG (ws.files.getD q default).bytes (ws.opn.getD j default).place k).length : Int))] ∧ S = WSt b m { ws with opn := ws.opn.set j { (ws.opn.getD j default) with place := (ws.opn.getD j default).place + (rdG (ws.files.getD q default).bytes (ws.opn.getD j default).place k).length } }) := by
  obtain ⟨ho, htr, htx, hfl, hpl, hsi⟩ := hw
  have hfq : (ws.files.getD q default).bytes.length ≤ n := hfl _ (getD_mem' hq)
  have hrl := rdG_len (ws.files.getD q default).bytes (ws.opn.getD j default).place k
  have hpq : (ws.opn.getD j default).place ≤ n := hpl _ (getD_mem' (by omega))
  refine ACalls.intro Try.func20 rfl Try.ntmps20 (Nat.le_of_ble_eq_true rfl) rfl fun X w0 => ?_
  refine AW.rseq ?_
  refine Y1 (Yv.assign rfl eV) ?_
  refine Y1 (Yv.assign rfl eV) ?_
  refine nl ?_
  refine AW.rseq ?_
  refine Y1 (Yv.move rfl eV) ?_
  refine Y1 (Yv.move rfl eV) ?_
  refine AWL.callP rfl rfl (B rfl) rfl ce_29 (E rfl rfl) (evsC (E rfl rfl) (evsC (E rfl rfl) evs0)) (at29 b j hj) (fun t S h => h) ?_
  refine Y1 (Yv.assign rfl eV) ?_
  refine nl ?_
  refine AW.seq ?_
  refine AW.rseq ?_
  refine Y1 (Yv.move rfl eV) ?_
  refine Y1 (Yv.nilChk rfl eV) ?_
  refine Y1 (Yv.fieldBox rfl fo_67_0 eV) ?_
  refine Y1 (Yv.loadBox rfl ag_3 (i := 0) rfl (E rfl rfl) (kind_at (by omega))) ?_
  refine nl ?_
  refine AW.block ?_
  refine AW.rseq ?_
  refine Y1 (Yv.eql rfl eV eV) ?_
  refine Y1 (Yv.assign rfl eV) ?_
  refine nl ?_
  refine AW.cond rfl (fun h0t => ?_) (fun h0f => ?_)
  ·
   try replace h0t := of_decide_eq_true h0t
   omega
  try replace h0f := of_decide_eq_false h0f
  refine AW.rseq ?_
  refine Y1 (Yv.eql rfl eV eV) ?_
  refine Y1 (Yv.assign rfl eV) ?_
  refine nl ?_
  refine AW.cond rfl (fun h1t => ?_) (fun h1f => ?_)
  ·
   try replace h1t := of_decide_eq_true h1t
   refine AW.rseqQ rfl (by kernel_rfl) ?_
   refine AWQ.y rfl rfl (B rfl) (Yv.move rfl (E rfl rfl)) ?_
   refine AWQ.y rfl rfl (B rfl) (Yv.nilChk rfl (E rfl rfl)) ?_
   refine AWQ.y rfl rfl (B rfl) (Yv.fieldBox rfl fo_70_0 (E rfl rfl)) ?_
   refine AWQ.y rfl rfl (B rfl) (Yv.loadBox rfl ag_64 (i := 0) rfl (E rfl rfl) rfl) ?_
   refine AWQ.y rfl rfl (B rfl) (Yv.move rfl (E rfl rfl)) ?_
   refine AWQ.y rfl rfl (B rfl) (Yv.nilChk rfl (E rfl rfl)) ?_
   refine AWQ.y rfl rfl (B rfl) (Yv.fieldBox rfl fo_67_1 (E rfl rfl)) ?_
   refine AWQ.y rfl rfl (B rfl) (Yv.loadBox rfl ag_9 (i := 0) rfl (E rfl rfl) (name_at (by omega))) ?_
   refine AWQ.y rfl rfl (B rfl) (Yv.eqT (t' := .v (.slice (ws.files.getD q default).A (ws.files.getD q default).bytes.length (ws.files.getD q default).c)) (Yv.lookup1 (k := .s _) (i := 1) rfl mp_64 rfl (E rfl rfl) (E rfl rfl) rfl (files_good _)) (by rw [hnm, get_file hu hq]; rfl)) ?_
   refine AWQ.y rfl rfl (B rfl) (Yv.assign rfl (E rfl rfl)) ?_
   refine AWQ.nil ?_
   refine AW.rseq ?_
   refine Y1 (Yv.move rfl eV) ?_
   refine Y1 (Yv.move rfl eV) ?_
   refine Y1 (Yv.nilChk rfl eV) ?_
   refine Y1 (Yv.fieldBox rfl fo_67_2 eV) ?_
   refine Y1 (Yv.loadBox rfl ag_3 (i := 0) rfl (E rfl rfl) (place_at (by omega))) ?_
   refine Y1 (Yv.move rfl eV) ?_
   refine Y1 (Yv.lenV rfl so_71 (E rfl rfl)) ?_
   refine Y1 (Yv.min2 rfl (E rfl rfl) (E rfl rfl)) ?_
   have e9 : (if ((ws.files.getD q default).bytes.length : Int) < ((ws.opn.getD j default).place : Int) then ((ws.files.getD q default).bytes.length : Int) else ((ws.opn.getD j default).place : Int)) = (((min (ws.opn.getD j default).place (ws.files.getD q default).bytes.length) : Nat) : Int) := by split <;> omega
   rw [e9]
   refine Y1 (Yv.sliceRowFrom (i := q + 3) (lo := (min (ws.opn.getD j default).place (ws.files.getD q default).bytes.length)) rfl ss_71 (file_row hq) (E rfl rfl) (Bound.some_ (E rfl rfl) (fun _ => rfl)) (fun hg => by omega)) ?_
   refine Y1 (Yv.assign rfl eV) ?_
   refine nl ?_
   refine AW.rowLe (q + 3) (file_row hq) (fun hcap => ?_)
   refine AW.rseq ?_
   refine Y1 (Yv.move rfl eV) ?_
   refine Y1 (Yv.move rfl eV) ?_
   refine Y1 (Yv.move rfl eV) ?_
   refine Y1 (Yv.lenV rfl so_71 (E rfl rfl)) ?_
   refine Y1 (Yv.convN_u64 rfl Try.underlying3 kd_51 (E rfl rfl) (fun hg => by omega)) ?_
   refine Y1 (Yv.min2 rfl (E rfl rfl) (E rfl rfl)) ?_
   have e10 : (if (((ws.files.getD q default).bytes.length - (min (ws.opn.getD j default).place (ws.files.getD q default).bytes.length) : Nat) : Int) < k then (((ws.files.getD q default).bytes.length - (min (ws.opn.getD j default).place (ws.files.getD q default).bytes.length) : Nat) : Int) else k) = (((rdG (ws.files.getD q default).bytes (ws.opn.getD j default).place k).length : Nat) : Int) := by rw [hrl]; split <;> omega
   rw [e10]
   refine Y1 (Yv.sliceV0 (m := (rdG (ws.files.getD q default).bytes (ws.opn.getD j default).place k).length) rfl ss_71 (E rfl rfl) (Bound.some_ (E rfl rfl) (fun _ => rfl)) (fun hg => by omega)) ?_
   refine Y1 (Yv.assign rfl eV) ?_
   refine nl ?_
   refine AW.rseq ?_
   refine Y1 (Yv.move rfl eV) ?_
   refine Y1 (Yv.nilChk rfl eV) ?_
   refine Y1 (Yv.fieldBox rfl fo_67_2 eV) ?_
   refine Y1 (Yv.loadBox rfl ag_3 (i := 0) rfl (E rfl rfl) (place_at (by omega))) ?_
   refine Y1 (Yv.move rfl eV) ?_
   refine Y1 (Yv.lenV rfl so_71 (E rfl rfl)) ?_
   refine Y1 (Yv.addN_i64 rfl (E rfl rfl) (E rfl rfl) (fun hg => by omega)) ?_
   refine Y1 (Yv.nilChk rfl eV) ?_
   refine Y1 (Yv.fieldBox rfl fo_67_2 eV) ?_
   refine AWL.storeBox (i := 0) rfl rfl rfl ag_3 rfl (E rfl rfl) (E rfl rfl) rfl rfl (by rw [wCells_len, ho]; omega) ?_
   refine nl ?_
   refine AW.eqS (wst_desc (b := b) (m := m) (ws := ws) (j := j) (by omega) 2 1 [.v (.int .i64 (((ws.opn.getD j default).place + (rdG (ws.files.getD q default).bytes (ws.opn.getD j default).place k).length : Nat) : Int))] { (ws.opn.getD j default) with place := (ws.opn.getD j default).place + (rdG (ws.files.getD q default).bytes (ws.opn.getD j default).place k).length } (by decide) rfl) ?_
   refine AW.rseq ?_
   refine Y1 (Yv.move rfl eV) ?_
   refine Y1 (Yv.bytesStrPart (i := q + 3) (lo := (min (ws.opn.getD j default).place (ws.files.getD q default).bytes.length)) (m := (rdG (ws.files.getD q default).bytes (ws.opn.getD j default).place k).length) (n := (ws.files.getD q default).bytes.length) (s := (ws.files.getD q default).bytes) rfl by_71 st_9 (file_row hq) (E rfl rfl) (fun hg => by omega)) ?_
   refine Y1 (Yv.move rfl eV) ?_
   refine Y1 (Yv.lenV rfl so_71 (E rfl rfl)) ?_
   refine Y1 (Yv.assign rfl eV) ?_
   refine Y1 (Yv.assign rfl eV) ?_
   refine nl ?_
   refine AW.ret (retI (.tmp rfl (.tmp rfl .nil)) ?_)
   have er : ((ws.files.getD q default).bytes.drop (min (ws.opn.getD j default).place (ws.files.getD q default).bytes.length)).take (rdG (ws.files.getD q default).bytes (ws.opn.getD j default).place k).length = (rdG (ws.files.getD q default).bytes (ws.opn.getD j default).place k) := by
     rw [hrl, show (ws.files.getD q default).bytes.drop (min (ws.opn.getD j default).place (ws.files.getD q default).bytes.length) = (ws.files.getD q default).bytes.drop (ws.opn.getD j default).place from by
       rcases Nat.le_total (ws.opn.getD j default).place (ws.files.getD q default).bytes.length with h | h
       · rw [Nat.min_eq_left h]
       · rw [Nat.min_eq_right h, List.drop_length, List.drop_of_length_le h]]
     unfold rdG
     rcases Nat.le_total k.toNat ((ws.files.getD q default).bytes.length - (ws.opn.getD j default).place) with h | h
     · rw [Nat.min_eq_left h]
     · rw [Nat.min_eq_right h, List.take_of_length_le (by rw [List.length_drop]; exact Nat.le_refl _), List.take_of_length_le (by rw [List.length_drop]; exact h)]
   rw [er]
   exact ⟨rfl, rfl⟩
  try replace h1f := of_decide_eq_false h1f
  omega

end Go.Proofs.Ytmiggpnkicdijaa

namespace Go.Proofs.Ytmiggpnkicdijaa
open Go Go.RowKit
set_option linter.unusedSimpArgs false
set_option linter.unusedVariables false
/-- What holds of a real world in plain words. -/
structure RP (n : Nat) (p : PW) : Prop where
  pb : PB n p
  nm : Named p
  nd : (p.files.map (·.1)).Nodup
  ns : ∀ f ∈ p.files, f.1.length ≤ 255
theorem abs_names (l : List FileR) : (l.map nb).map (·.1) = l.map (·.name) := by
  rw [List.map_map]
  rfl
theorem RP.uq {n : Nat} {ws : WS} (h : RP n (absW ws)) : Uniq ws.files := by
  have := h.nd
  unfold absW at this
  simp only at this
  rw [abs_names] at this
  exact this
theorem RP.wb {n : Nat} {ws : WS} (h : RP n (absW ws)) : WB n ws := ⟨h.pb.opn, h.pb.tr, h.pb.txt, fun f hf => h.pb.fl (nb f) (List.mem_map_of_mem hf), h.pb.pl, h.pb.sin⟩
theorem hasK_get (name : List UInt8) (l : List FileR) : hasK name l = (getP name (l.map nb)).isSome := by rw [hasK_any, any_none]
theorem openV_abs (name : List UInt8) (flags : Int) (ws : WS) : openR name flags ws = openV name flags (absW ws) := by
  unfold openR openV
  have e1 : ((flags ≠ 0 ∧ flags ≠ 577) ∨ 0 ≤ Lib.indexByte name 0) = ((flags ≠ 0 ∧ flags ≠ 577) ∨ badN name = true) := by rw [propext (idx_bad name)]
  have e2 : (flags = 0 ∧ hasK name ws.files = false) = (flags = 0 ∧ getP name (absW ws).files = none) := by
    rw [hasK_get]
    show (flags = 0 ∧ (getP name (ws.files.map nb)).isSome = false) = (flags = 0 ∧ getP name (ws.files.map nb) = none)
    cases getP name (ws.files.map nb) <;> simp
  simp only [e1, e2]
  rfl
theorem putF_nb (f : FileR) : ∀ l : List FileR, (putF f l).map nb = putP f.name f.bytes (l.map nb)
  | [] => rfl
  | g :: r => by
    rw [putF, List.map_cons, putP]
    by_cases h : g.name = f.name
    · rw [if_pos h, if_pos (show (nb g).1 = f.name from h)]
      rfl
    · rw [if_neg h, if_neg (show ¬ (nb g).1 = f.name from h), List.map_cons, putF_nb f r]
theorem openS_abs (name : List UInt8) (flags : Int) (A : Option Addr) (c : Nat) (tA : Option Addr) (tc : Nat) (ws : WS) : absW (openS name flags A c tA tc ws) = openP name flags (absW ws) := by
  unfold openS openP
  rw [openV_abs]
  split
  · rfl
  split
  · unfold absW
    simp only [putF_nb]
  · rfl
theorem putP_ns {name : Nm} {b : List UInt8} {l : Fl} (h : ∀ f ∈ l, f.1.length ≤ 255) (hn : name.length ≤ 255) : ∀ f ∈ putP name b l, f.1.length ≤ 255 := by
  intro f hf
  induction l with
  | nil => rw [putP] at hf; rw [List.mem_singleton.1 hf]; exact hn
  | cons x r ih =>
    rw [putP] at hf
    split at hf
    · rcases List.mem_cons.1 hf with rfl | hf
      · exact hn
      · exact h f (List.mem_cons_of_mem _ hf)
    · rcases List.mem_cons.1 hf with rfl | hf
      · exact h _ (List.mem_cons_self ..)
      · exact ih (fun g hg => h g (List.mem_cons_of_mem _ hg)) hf
theorem open_short {name : Nm} {flags : Int} {p : PW} (h : ¬ openV name flags p < 0) : name.length ≤ 255 := by
  rcases Nat.lt_or_ge 255 name.length with q | q
  · exfalso
    unfold openV at h
    rw [if_pos q] at h
    exact h (by decide)
  · exact q
theorem RP.of_open {n : Nat} {p : PW} (h : RP n p) (name : Nm) (flags : Int) : RP (n + 1) (openP name flags p) := by
  refine ⟨?_, named_open h.nm name flags, ?_, ?_⟩
  · by_cases hf : flags = 577
    · rw [hf]; exact h.pb.opened name
    · exact (h.pb.open0 name flags hf).mono (by omega)
  · unfold openP
    split
    · exact h.nd
    split
    · exact putP_nodup h.nd
    · exact h.nd
  · unfold openP
    split
    · exact h.ns
    rename_i hv
    split
    · exact putP_ns h.ns (open_short hv)
    · exact h.ns
theorem RP.close {n : Nat} {p : PW} (h : RP n p) (fd : Int) : RP n (closeP fd p) := by
  refine ⟨h.pb.close fd, named_close h.nm fd, ?_, ?_⟩
  · unfold closeP
    split
    · exact h.nd
    · exact h.nd
  · unfold closeP
    split
    · exact h.ns
    · exact h.ns
theorem RP.read {n : Nat} {p : PW} (h : RP n p) (fd N : Int) : RP n (readP fd N p) := by
  have hf : (readP fd N p).files = p.files := by
    unfold readP
    split
    · rfl
    split
    · rfl
    · rfl
  exact ⟨h.pb.read fd N, named_read h.nm fd N, by rw [hf]; exact h.nd, by rw [hf]; exact h.ns⟩
theorem RP.write {n : Nat} {p : PW} (h : RP n p) (fd : Int) (s : List UInt8) : RP (n + 1 + s.length) (writeP fd s p) := by
  refine ⟨h.pb.write fd s, named_write h.nm fd s, ?_, ?_⟩
  · unfold writeP
    split
    · exact h.nd
    split
    · exact h.nd
    split
    · split
      · exact h.nd
      · exact putP_nodup h.nd
    · exact h.nd
  · unfold writeP
    split
    · exact h.ns
    split
    · exact h.ns
    split
    · rename_i hk
      split
      · exact h.ns
      · obtain ⟨_, _, _, hm, he⟩ := kind_in h.nm (fd := fd) (by rw [hk]; decide)
        obtain ⟨b, hb⟩ := Option.isSome_iff_exists.1 (h.nm.2 _ hm (.inr (he ▸ hk)))
        exact putP_ns h.ns (h.ns _ (getP_mem hb))
    · exact h.ns
theorem RP.line {n : Nat} {p : PW} (h : RP n p) : RP n (lineP p) := ⟨h.pb.line, named_line h.nm, h.nd, h.ns⟩
theorem RP.mono {n m : Nat} {p : PW} (h : RP n p) (hm : n ≤ m) : RP m p := ⟨h.pb.mono hm, h.nm, h.nd, h.ns⟩
theorem RP.rd {n : Nat} {p : PW} (h : RP n p) (name : Nm) : RP n (rdP name p) := by
  refine ⟨h.pb.rd name, named_rd h.nm name, ?_, ?_⟩
  · unfold rdP
    split
    · exact h.nd
    · exact ((h.of_open name 0).close _).nd
  · unfold rdP
    split
    · exact h.ns
    · exact ((h.of_open name 0).close _).ns
theorem RP.wf {n : Nat} {p : PW} (h : RP n p) (name : Nm) (s : List UInt8) : RP (n + 2 + s.length) (wfP name s p) := by
  refine ⟨h.pb.wf name s, named_wf h.nm name s, ?_, ?_⟩
  · unfold wfP
    split
    · exact h.nd
    · exact (((h.of_open name 577).write _ s).close _).nd
  · unfold wfP
    split
    · exact h.ns
    · exact (((h.of_open name 577).write _ s).close _).ns
theorem kind_nat {p : PW} {j : Nat} (hj : j < 19) : kindP (j : Int) p = (p.opn.getD j default).kind := by
  unfold kindP
  rw [if_neg (by omega)]
  rfl
theorem kind_bad {p : PW} {fd : Int} (h : fd < 0 ∨ 19 ≤ fd) : kindP fd p = 0 := by
  unfold kindP
  rw [if_pos h]
/-- Of a descriptor of a file: the file. -/
theorem file_of {n : Nat} {ws : WS} (h : RP n (absW ws)) {j : Nat} (hj : j < 19) (hk : (ws.opn.getD j default).kind = 4 ∨ (ws.opn.getD j default).kind = 5) :
    ∃ q, q < ws.files.length ∧ (ws.opn.getD j default).name = (ws.files.getD q default).name ∧ getP (ws.opn.getD j default).name (absW ws).files = some (ws.files.getD q default).bytes ∧
      ∀ x, putP (ws.opn.getD j default).name x (absW ws).files = (absW ws).files.set q ((ws.opn.getD j default).name, x) := by
  have ho : ws.opn.length = 19 := h.pb.opn
  have hsome := h.nm.2 _ (getD_mem' (l := ws.opn) (j := j) (by omega)) hk
  obtain ⟨q, hfq, hq, hqn, hqg, hqp⟩ := (findP_get (name := (ws.opn.getD j default).name) (l := (absW ws).files)).resolve_left (fun h => by rw [h.2] at hsome; cases hsome)
  have hq' : q < ws.files.length := by
    have h := hq
    unfold absW at h
    rwa [List.length_map] at h
  have e : (absW ws).files.getD q default = nb (ws.files.getD q default) := nb_at hq'
  rw [e] at hqn hqg
  exact ⟨q, hq', hqn.symm, hqg, hqp⟩
theorem rSysClose (b m : Nat) (ws : WS) (n : Nat) (h : RP n (absW ws)) (fd : Int) : ACalls Try.prog 18 [wp b, .v (.int .i64 fd)] (WSt b m ws) (fun t S => t = .v (.int .i64 (closeV fd (absW ws))) ∧ ∃ ws', absW ws' = closeP fd (absW ws) ∧ S = WSt b m ws') := by
  by_cases hv : fd < 0 ∨ 19 ≤ fd
  · refine (SysClose18B b m ws fd hv).mono fun t S hr => ?_
    obtain ⟨rfl, rfl⟩ := hr
    refine ⟨?_, ws, ?_, rfl⟩
    · unfold closeV
      rw [if_pos (kind_bad hv)]
    · unfold closeP
      rw [if_pos (kind_bad hv)]
  · obtain ⟨j, rfl⟩ : ∃ j : Nat, fd = (j : Int) := ⟨fd.toNat, by omega⟩
    have hj : j < 19 := by omega
    refine (SysClose18 b m ws j n hj h.wb).mono fun t S hr => ?_
    obtain ⟨rfl, rfl⟩ := hr
    have hk : kindP (j : Int) (absW ws) = (ws.opn.getD j default).kind := kind_nat hj
    refine ⟨?_, _, ?_, rfl⟩
    · unfold closeV
      rw [hk]
    · unfold closeP closeF
      rw [hk]
      split <;> rfl
theorem rSysRead (b m : Nat) (ws : WS) (n : Nat) (h : RP n (absW ws)) (hn : n ≤ 549755813888) (fd : Int) (N : Nat) (hN : N ≤ 18446744073709551615) : ACalls Try.prog 20 [wp b, .v (.int .i64 fd), .v (.int .u64 (N : Int))] (WSt b m ws) (fun t S => t = .tup [sv (readV fd (N : Int) (absW ws)).1, .v (.int .i64 (readV fd (N : Int) (absW ws)).2)] ∧ ∃ ws', absW ws' = readP fd (N : Int) (absW ws) ∧ S = WSt b m ws') := by
  have bad : ∀ (fd : Int), ¬ kindP fd (absW ws) = 1 → ¬ kindP fd (absW ws) = 4 → readV fd (N : Int) (absW ws) = ([], -9) ∧ readP fd (N : Int) (absW ws) = absW ws := fun fd h1 h4 => by
    unfold readV readP
    rw [if_neg h1, if_neg h4, if_neg h1, if_neg h4]
    exact ⟨rfl, rfl⟩
  by_cases hv : fd < 0 ∨ 19 ≤ fd
  · refine (SysRead20B b m ws fd hv (N : Int)).mono fun t S hr => ?_
    obtain ⟨rfl, rfl⟩ := hr
    have hb := bad fd (by rw [kind_bad hv]; decide) (by rw [kind_bad hv]; decide)
    rw [hb.1, hb.2]
    exact ⟨rfl, ws, rfl, rfl⟩
  · obtain ⟨j, rfl⟩ : ∃ j : Nat, fd = (j : Int) := ⟨fd.toNat, by omega⟩
    have hj : j < 19 := by omega
    have hk : kindP (j : Int) (absW ws) = (ws.opn.getD j default).kind := kind_nat hj
    by_cases h1 : (ws.opn.getD j default).kind = 1
    · refine (SysRead20_1 b m ws j n hj h.wb hn h1 N hN).mono fun t S hr => ?_
      obtain ⟨rfl, rfl⟩ := hr
      unfold readV readP
      rw [hk, if_pos h1, if_pos h1]
      exact ⟨rfl, _, rfl, rfl⟩
    · by_cases h4 : (ws.opn.getD j default).kind = 4
      · obtain ⟨q, hq, hqn, hqg, hqp⟩ := file_of h hj (.inl h4)
        refine (SysRead20G b m ws j q (N : Int) n hj h4 hq h.uq hqn h.wb hn (by omega) (by omega)).mono fun t S hr => ?_
        obtain ⟨rfl, rfl⟩ := hr
        have e : ((absW ws).opn.getD (j : Int).toNat default) = ws.opn.getD j default := rfl
        unfold readV readP
        rw [hk, if_neg h1, if_pos h4, if_neg h1, if_pos h4, e, hqg]
        exact ⟨rfl, _, rfl, rfl⟩
      · refine (SysRead20_0 b m ws j n hj h.wb ⟨h1, h4⟩ (N : Int)).mono fun t S hr => ?_
        obtain ⟨rfl, rfl⟩ := hr
        have hb := bad (j : Int) (by rw [hk]; exact h1) (by rw [hk]; exact h4)
        rw [hb.1, hb.2]
        exact ⟨rfl, ws, rfl, rfl⟩
theorem rSysWrite (b m : Nat) (ws : WS) (n : Nat) (h : RP n (absW ws)) (hn : n ≤ 549755813888) (fd : Int) (s : List UInt8) (hs : s.length ≤ 549755813888) : ACalls Try.prog 13 [wp b, .v (.int .i64 fd), sv s] (WSt b m ws) (fun t S => t = .v (.int .i64 (writeV fd s (absW ws))) ∧ ∃ ws', absW ws' = writeP fd s (absW ws) ∧ S = WSt b m ws') := by
  have bad : ∀ (fd : Int), ¬ kindP fd (absW ws) = 2 → ¬ kindP fd (absW ws) = 3 → ¬ kindP fd (absW ws) = 5 → writeV fd s (absW ws) = -9 ∧ writeP fd s (absW ws) = absW ws := fun fd h2 h3 h5 => by
    unfold writeV writeP
    rw [if_neg (fun q => q.elim h2 (fun q => q.elim h3 h5)), if_neg h2, if_neg h3, if_neg h5]
    exact ⟨rfl, rfl⟩
  by_cases hv : fd < 0 ∨ 19 ≤ fd
  · refine (SysWrite13B b m ws fd hv s).mono fun t S hr => ?_
    obtain ⟨rfl, rfl⟩ := hr
    have hb := bad fd (by rw [kind_bad hv]; decide) (by rw [kind_bad hv]; decide) (by rw [kind_bad hv]; decide)
    rw [hb.1, hb.2]
    exact ⟨rfl, ws, rfl, rfl⟩
  · obtain ⟨j, rfl⟩ : ∃ j : Nat, fd = (j : Int) := ⟨fd.toNat, by omega⟩
    have hj : j < 19 := by omega
    have hk : kindP (j : Int) (absW ws) = (ws.opn.getD j default).kind := kind_nat hj
    by_cases h2 : (ws.opn.getD j default).kind = 2
    · refine (SysWrite13_2 b m ws j s n hj h2 h.wb (by omega) (by omega)).mono fun t S hr => ?_
      obtain ⟨rfl, A, c, rfl⟩ := hr
      unfold writeV writeP
      rw [hk, if_pos (.inl h2), if_pos h2]
      exact ⟨rfl, _, rfl, rfl⟩
    · by_cases h3 : (ws.opn.getD j default).kind = 3
      · refine (SysWrite13_3 b m ws j s n hj h3 h.wb (by omega) (by omega)).mono fun t S hr => ?_
        obtain ⟨rfl, A, c, rfl⟩ := hr
        unfold writeV writeP
        rw [hk, if_pos (.inr (.inl h3)), if_neg h2, if_pos h3]
        exact ⟨rfl, _, rfl, rfl⟩
      · by_cases h5 : (ws.opn.getD j default).kind = 5
        · obtain ⟨q, hq, hqn, hqg, hqp⟩ := file_of h hj (.inr h5)
          refine (SysWrite13_5 b m ws j q s n hj h5 hq h.uq hqn h.wb hn hs).mono fun t S hr => ?_
          obtain ⟨rfl, A, c, tA, tc, rfl⟩ := hr
          have e : ((absW ws).opn.getD (j : Int).toNat default) = ws.opn.getD j default := rfl
          unfold writeV writeP
          rw [hk, if_pos (.inr (.inr h5)), if_neg h2, if_neg h3, if_pos h5, e, hqg]
          refine ⟨rfl, _, ?_, rfl⟩
          unfold wrF
          split
          · rfl
          · rw [hqp]
            unfold absW
            simp only [List.map_set]
            rw [hqn]
            rfl
        · refine (SysWrite13_0 b m ws j n hj h.wb ⟨h2, h3, h5⟩ s).mono fun t S hr => ?_
          obtain ⟨rfl, rfl⟩ := hr
          have hb := bad (j : Int) (by rw [hk]; exact h2) (by rw [hk]; exact h3) (by rw [hk]; exact h5)
          rw [hb.1, hb.2]
          exact ⟨rfl, ws, rfl, rfl⟩
theorem rSysOpen (b m : Nat) (ws : WS) (n : Nat) (h : RP n (absW ws)) (hn : n ≤ 549755813888) (name : List UInt8) (flags : Int) : ACalls Try.prog 17 [wp b, sv name, .v (.int .i64 flags)] (WSt b m ws) (fun t S => t = .v (.int .i64 (openV name flags (absW ws))) ∧ ∃ ws', absW ws' = openP name flags (absW ws) ∧ S = WSt b m ws') := by
  refine (SysOpen17 b m ws name flags n h.wb hn).mono fun t S hr => ?_
  obtain ⟨rfl, A, c, tA, tc, rfl⟩ := hr
  exact ⟨by rw [openV_abs], _, openS_abs name flags A c tA tc ws, rfl⟩
theorem rLine (b m : Nat) (ws : WS) (n : Nat) (h : RP n (absW ws)) (hn : n ≤ 549755813888) : ACalls Try.prog 16 [wp b] (WSt b m ws) (fun t S => t = sv (lineV (absW ws)) ∧ ∃ ws', absW ws' = lineP (absW ws) ∧ S = WSt b m ws') := by
  refine (Line16 b m ws n h.wb (by omega)).mono fun t S hr => ?_
  obtain ⟨rfl, rfl⟩ := hr
  exact ⟨rfl, _, rfl, rfl⟩
theorem rReadFile (b m : Nat) (ws : WS) (n : Nat) (h : RP n (absW ws)) (hn : n ≤ 549755813888) (name : List UInt8) : ACalls Try.prog 19 [wp b, sv name] (WSt b m ws) (fun t S => t = .tup [sv (rdV name (absW ws)).1, .v (.bool (rdV name (absW ws)).2)] ∧ ∃ ws', absW ws' = rdP name (absW ws) ∧ S = WSt b m ws') := by
  refine (ReadFile19 b m ws name n h.wb hn h.uq).mono fun t S hr => ?_
  rcases hr with ⟨h1, rfl, rfl⟩ | ⟨h1, q, hq, hqn, rfl, rfl⟩
  · rw [openV_abs] at h1
    unfold rdV rdP
    rw [if_pos h1, if_pos h1]
    exact ⟨rfl, ws, rfl, rfl⟩
  · rw [openV_abs] at h1
    have hg : getP name (absW ws).files = some (ws.files.getD q default).bytes := by
      refine mem_getP h.nd ?_
      have : nb (ws.files.getD q default) ∈ ws.files.map nb := List.mem_map_of_mem (getD_mem' hq)
      unfold nb at this
      rw [hqn] at this
      exact this
    have hix : freeIx ws.opn < 19 ∧ openV name 0 (absW ws) = (freeIx ws.opn : Int) := by
      have h2 := h1
      unfold openV at h2 ⊢
      split at h2
      · exact absurd (by decide) h2
      split at h2
      · exact absurd (by decide) h2
      split at h2
      · exact absurd (by decide) h2
      split at h2
      · exact absurd (by decide) h2
      split at h2
      · rename_i a1 a2 a3 a4 a5
        refine ⟨a5, ?_⟩
        rw [if_neg a1, if_neg a2, if_neg a3, if_neg a4, if_pos a5]
        rfl
      · exact absurd (by decide) h2
    have ho : ws.opn.length = 19 := h.pb.opn
    unfold rdV rdP
    rw [if_neg h1, if_neg h1, hg]
    refine ⟨rfl, _, ?_, rfl⟩
    have e1 : openP name 0 (absW ws) = { absW ws with opn := ws.opn.set (freeIx ws.opn) ⟨4, name, 0⟩ } := by
      unfold openP
      rw [if_neg h1, if_neg (by decide)]
      rfl
    rw [e1, hix.2]
    have hk : kindP (freeIx ws.opn : Int) { absW ws with opn := ws.opn.set (freeIx ws.opn) ⟨4, name, 0⟩ } = 4 := by
      rw [kind_nat hix.1]
      show ((ws.opn.set (freeIx ws.opn) ⟨4, name, 0⟩).getD (freeIx ws.opn) default).kind = 4
      rw [getD_set (by omega)]
    unfold closeP
    rw [hk, if_neg (by decide)]
    show _ = ({ absW ws with opn := (ws.opn.set (freeIx ws.opn) ⟨4, name, 0⟩).set (freeIx ws.opn) ⟨0, [], 0⟩ } : PW)
    rw [List.set_set]
    rfl
end Go.Proofs.Ytmiggpnkicdijaa

namespace Go.Proofs.Ytmiggpnkicdijaa
open Go Go.RowKit
set_option linter.unusedVariables false
set_option linter.unnecessarySimpa false
set_option linter.unusedSimpArgs false

set_option maxHeartbeats 400000 in
theorem rOut (b m : Nat) (ws : WS) (n : Nat) (h : RP n (absW ws)) (hn : n ≤ 549755813888) (s : List UInt8) (hs : s.length ≤ 549755813888) :
    ACalls Try.prog 12 [wp b, sv s] (WSt b m ws) (fun t S => t = .tup [] ∧ ∃ ws', absW ws' = writeP 1 s (absW ws) ∧ S = WSt b m ws') := by
  refine ACalls.intro Try.func12 rfl Try.ntmps12 (Nat.le_of_ble_eq_true rfl) rfl fun X w0 => ?_
  refine AW.region ?_
  refine Y1 (Yv.move rfl eV) ?_
  refine Y1 (Yv.move rfl eV) ?_
  refine AWL.callAll rfl rfl (B rfl) rfl ce_13 (E rfl rfl) (evsC (E rfl rfl) (evsC (E rfl rfl) (evsC (E rfl rfl) evs0))) (rSysWrite b m ws n h hn 1 s hs) ?_
  rintro t6 S6 ⟨rfl, ws6, hd6, rfl⟩
  refine nl ?_
  refine retN .nil ?_
  exact ⟨rfl, _, by assumption, rfl⟩

set_option maxHeartbeats 400000 in
theorem rErr (b m : Nat) (ws : WS) (n : Nat) (h : RP n (absW ws)) (hn : n ≤ 549755813888) (s : List UInt8) (hs : s.length ≤ 549755813888) :
    ACalls Try.prog 43 [wp b, sv s] (WSt b m ws) (fun t S => t = .tup [] ∧ ∃ ws', absW ws' = writeP 2 s (absW ws) ∧ S = WSt b m ws') := by
  refine ACalls.intro Try.func43 rfl Try.ntmps43 (Nat.le_of_ble_eq_true rfl) rfl fun X w0 => ?_
  refine AW.region ?_
  refine Y1 (Yv.move rfl eV) ?_
  refine Y1 (Yv.move rfl eV) ?_
  refine AWL.callAll rfl rfl (B rfl) rfl ce_13 (E rfl rfl) (evsC (E rfl rfl) (evsC (E rfl rfl) (evsC (E rfl rfl) evs0))) (rSysWrite b m ws n h hn 2 s hs) ?_
  rintro t6 S6 ⟨rfl, ws6, hd6, rfl⟩
  refine nl ?_
  refine retN .nil ?_
  exact ⟨rfl, _, by assumption, rfl⟩

set_option maxHeartbeats 2000000 in
theorem rWriteFile (b m : Nat) (ws : WS) (n : Nat) (h : RP n (absW ws)) (hn : n ≤ 274877906944) (name s : List UInt8) (hs : s.length ≤ 274877906944) :
    ACalls Try.prog 28 [wp b, sv name, sv s] (WSt b m ws) (fun t S => t = .v (.bool (!decide (openV name 577 (absW ws) < 0))) ∧ ∃ ws', absW ws' = wfP name s (absW ws) ∧ S = WSt b m ws') := by
  refine ACalls.intro Try.func28 rfl Try.ntmps28 (Nat.le_of_ble_eq_true rfl) rfl fun X w0 => ?_
  refine AW.rseq ?_
  refine Y1 (Yv.assign rfl eV) ?_
  refine nl ?_
  refine AW.rseq ?_
  refine Y1 (Yv.move rfl eV) ?_
  refine Y1 (Yv.move rfl eV) ?_
  refine AWL.callAll rfl rfl (B rfl) rfl ce_17 (E rfl rfl) (evsC (E rfl rfl) (evsC (E rfl rfl) (evsC (E rfl rfl) evs0))) (rSysOpen b m ws n h (by omega) name 577) ?_
  rintro t10 S10 ⟨rfl, ws1, ho1, rfl⟩
  have hr1 : RP (n + 1) (absW ws1) := ho1 ▸ h.of_open name 577
  refine Y1 (Yv.assign rfl eV) ?_
  refine nl ?_
  refine AW.seq ?_
  refine AW.rseq ?_
  refine Y1 (Yv.move rfl eV) ?_
  refine Y1 (Yv.lss rfl eV eV) ?_
  refine nl ?_
  refine AW.cond rfl (fun h0t => ?_) (fun h0f => ?_)
  ·
   try replace h0t := of_decide_eq_true h0t
   refine AW.rseq ?_
   refine Y1 (Yv.assign rfl eV) ?_
   refine nl ?_
   refine AW.ret (retI (.tmp rfl .nil) ?_)
   refine ⟨by rw [decide_eq_true h0t]; rfl, ws1, ?_, rfl⟩
   unfold wfP
   rw [if_pos h0t, ho1]
   unfold openP
   rw [if_pos h0t]
  try replace h0f := of_decide_eq_false h0f
  refine AW.skip ?_
  refine AW.rseq ?_
  refine Y1 (Yv.move rfl eV) ?_
  refine Y1 (Yv.move rfl eV) ?_
  refine Y1 (Yv.move rfl eV) ?_
  refine AWL.callAll rfl rfl (B rfl) rfl ce_13 (E rfl rfl) (evsC (E rfl rfl) (evsC (E rfl rfl) (evsC (E rfl rfl) evs0))) (rSysWrite b m ws1 (n + 1) hr1 (by omega) (openV name 577 (absW ws)) s (by omega)) ?_
  rintro t16 S16 ⟨rfl, ws2, hd2, rfl⟩
  have hr2 : RP (n + 1 + 1 + s.length) (absW ws2) := hd2 ▸ hr1.write _ s
  refine nl ?_
  refine AW.rseq ?_
  refine Y1 (Yv.move rfl eV) ?_
  refine Y1 (Yv.move rfl eV) ?_
  refine AWL.callAll rfl rfl (B rfl) rfl ce_18 (E rfl rfl) (evsC (E rfl rfl) (evsC (E rfl rfl) evs0)) (rSysClose b m ws2 (n + 1 + 1 + s.length) hr2 (openV name 577 (absW ws))) ?_
  rintro t19 S19 ⟨rfl, ws3, hd3, rfl⟩
  refine nl ?_
  refine AW.rseq ?_
  refine Y1 (Yv.assign rfl eV) ?_
  refine nl ?_
  refine AW.ret (retI (.tmp rfl .nil) ?_)
  refine ⟨by rw [decide_eq_false h0f]; rfl, ws3, ?_, rfl⟩
  unfold wfP
  rw [if_neg h0f, hd3, hd2, ho1]

end Go.Proofs.Ytmiggpnkicdijaa

namespace Go.Proofs.Ytmiggpnkicdijaa
open Go Go.RowKit
set_option linter.unusedSimpArgs false
set_option linter.unusedVariables false
section
variable {cx : Cx} {env : Env} {S : St} {o : Oper} {x : Operand} {ops : Array Oper} {l : List Oper} {K : Env → St → Prop} {d : Nat} {Hd : World → Prop}
theorem AWH.tk {fuel i : Nat} {listed : Array Bool} {t : T} (hi : ops[i]? = some o) (hg : o.guard = none) (hd : o.dst = some d) (hN : d < cx.N)
    (hy : ∀ a w, Sim cx env S a w → ∃ u, VRep w (cx.X ++ M S) t u ∧ ∀ w', Hd w' → (execOp a.eval o).run cx.P w' = .ok (.value u) w') (h : AWH cx ops Hd fuel (listed.setIfInBounds i true) K ((d, true, t) :: env) S)
    (hs : Region.noSelect ops = true := by kernel_rfl) (hf : Region.free .any ops listed i = true := by kernel_rfl) (hr : (Region.ready .any ops listed).contains i = true := by kernel_rfl) : AWH cx ops Hd (fuel + 1) listed K env S := AWH.take hi hs hf hr hg hd hN hy h
theorem tb {b : Nat} {ty : TypeId} {us : List Value} {K : Env → St → Prop} (k : Nat) (hi : S[k]? = some (.box b ty (us.map T.v))) (h : K env S) : AWL cx ops [] (fun env S => Tells cx (HeldBox b us) env S ∧ K env S) env S := AWL.nil ⟨tells_box hi, h⟩
end
structure StepS where
  kind : Int
  fd : Int
  n : Nat
  name : List UInt8
  text : List UInt8
  deriving Inhabited
def stepVals (s : StepS) : List Value := [.int .i64 s.kind, .int .i64 s.fd, .int .u64 (s.n : Int), .string ⟨s.name.toArray⟩, .string ⟨s.text.toArray⟩]
def stepCells (s : StepS) : List T := [.v (.int .i64 s.kind), .v (.int .i64 s.fd), .v (.int .u64 (s.n : Int)), sv s.name, sv s.text]
/-- A step within a machine's bounds. -/
structure StepOk (s : StepS) : Prop where
  k0 : -9223372036854775808 ≤ s.kind
  k1 : s.kind ≤ 9223372036854775807
  f0 : -9223372036854775808 ≤ s.fd
  f1 : s.fd ≤ 9223372036854775807
  n1 : s.n ≤ 18446744073709551615
  nm : s.name.length ≤ 1099511627
  tx : s.text.length ≤ 1099511627
theorem Side.pbd {n : Nat} {r d : PW} (h : Side r d) (hr : PB n r) : PB n d :=
  ⟨by rw [h.opn]; exact hr.opn, by rw [h.trace]; exact hr.tr, by rw [h.trace]; exact hr.txt, fun f hf => hr.fl f (h.files.symm.subset hf), by rw [h.opn]; exact hr.pl, by rw [h.stdin]; exact hr.sin, by rw [← h.files.length_eq]; exact hr.nf⟩
theorem Side.named {r d : PW} (h : Side r d) (hr : Named r) : Named d :=
  ⟨by rw [h.opn]; exact hr.1, fun x hx q => by rw [h.get]; rw [h.opn] at hx; exact hr.2 x hx q⟩
structure Both (n : Nat) (ws : WS) (ds : DS) : Prop where
  r : RP n (absW ws)
  s : Side (absW ws) (pl ds)
theorem Side.lineV {r d : PW} (h : Side r d) : Go.Proofs.Ytmiggpnkicdijaa.lineV d = Go.Proofs.Ytmiggpnkicdijaa.lineV r := by unfold Go.Proofs.Ytmiggpnkicdijaa.lineV; rw [h.stdin]
theorem Both.mono {n m : Nat} {ws : WS} {ds : DS} (h : Both n ws ds) (hm : n ≤ m) : Both m ws ds := ⟨h.r.mono hm, h.s⟩
theorem Both.pd {n : Nat} {ws : WS} {ds : DS} (h : Both n ws ds) : PB n (pl ds) := h.s.pbd h.r.pb
theorem Both.nd {n : Nat} {ws : WS} {ds : DS} (h : Both n ws ds) : Named (pl ds) := h.s.named h.r.nm
section
variable {n : Nat} {ws ws' : WS} {ds ds' : DS}
theorem Both.opened (h : Both n ws ds) {name : Nm} {flags : Int} (h1 : absW ws' = openP name flags (absW ws)) (h2 : DOpen name flags (pl ds) (pl ds')) : Both (n + 1) ws' ds' := ⟨h1 ▸ h.r.of_open name flags, h1 ▸ h.s.openD h2⟩
theorem Both.wrote (h : Both n ws ds) {fd : Int} {s : List UInt8} (h1 : absW ws' = writeP fd s (absW ws)) (h2 : pl ds' = writeP fd s (pl ds)) : Both (n + 1 + s.length) ws' ds' := ⟨h1 ▸ h.r.write fd s, by rw [h1, h2]; exact h.s.write h.r.nm fd s⟩
theorem Both.read (h : Both n ws ds) {fd N : Int} (h1 : absW ws' = readP fd N (absW ws)) (h2 : pl ds' = readP fd N (pl ds)) : Both n ws' ds' := ⟨h1 ▸ h.r.read fd N, by rw [h1, h2]; exact h.s.read fd N⟩
theorem Both.closed (h : Both n ws ds) {fd : Int} (h1 : absW ws' = closeP fd (absW ws)) (h2 : pl ds' = closeP fd (pl ds)) : Both n ws' ds' := ⟨h1 ▸ h.r.close fd, by rw [h1, h2]; exact h.s.close fd⟩
theorem Both.lined (h : Both n ws ds) (h1 : absW ws' = lineP (absW ws)) (h2 : pl ds' = lineP (pl ds)) : Both n ws' ds' := ⟨h1 ▸ h.r.line, by rw [h1, h2]; exact h.s.line⟩
theorem Both.rd (h : Both n ws ds) {name : Nm} (h1 : absW ws' = rdP name (absW ws)) (h2 : pl ds' = rdP name (pl ds)) : Both n ws' ds' := ⟨h1 ▸ h.r.rd name, by rw [h1, h2]; exact h.s.rd name⟩
theorem Both.wf (h : Both n ws ds) {name : Nm} {s : List UInt8} (h1 : absW ws' = wfP name s (absW ws)) (h2 : DWr name s (pl ds) (pl ds')) : Both (n + 2 + s.length) ws' ds' := ⟨h1 ▸ h.r.wf name s, h1 ▸ h.s.wf h.r.nm h2⟩
end
theorem pl_read {ds : DS} {fd N : Int} : pl { ds with stdin := (readP fd N (pl ds)).stdin, opn := (readP fd N (pl ds)).opn } = readP fd N (pl ds) := by
  unfold readP
  split
  · rfl
  split
  · rfl
  · rfl
theorem pl_close {ds : DS} {fd : Int} : pl { ds with opn := (closeP fd (pl ds)).opn } = closeP fd (pl ds) := by
  unfold closeP
  split <;> rfl
theorem pl_line {ds : DS} : pl { ds with stdin := ds.stdin.drop (lineN ds.stdin) } = lineP (pl ds) := rfl
theorem tdiv_in {k c : Int} (h0 : -9223372036854775808 ≤ k ∧ k ≤ 9223372036854775807) (hc : 1 ≤ c) : -9223372036854775808 ≤ k.tdiv c ∧ k.tdiv c ≤ 9223372036854775807 := by
  have h1 : (k.tdiv c).natAbs ≤ k.natAbs := by
    rw [Int.natAbs_tdiv]
    exact Nat.div_le_self _ _
  rcases Int.lt_or_le k 0 with h | h
  · have h2 : k.tdiv c ≤ 0 := by
      have : 0 ≤ (-k).tdiv c := Int.tdiv_nonneg (by omega) (by omega)
      rw [Int.neg_tdiv] at this
      omega
    omega
  · have h2 : 0 ≤ k.tdiv c := Int.tdiv_nonneg h (by omega)
    omega
/-- A step's flags, its descriptor. -/
def flagsF (s : StepS) : Int := if pickF (s.kind.tdiv 128) 8 = 0 ∨ pickF (s.kind.tdiv 128) 8 = 1 ∨ pickF (s.kind.tdiv 128) 8 = 2 then 0 else if pickF (s.kind.tdiv 128) 8 = 3 ∨ pickF (s.kind.tdiv 128) 8 = 4 ∨ pickF (s.kind.tdiv 128) 8 = 5 ∨ pickF (s.kind.tdiv 128) 8 = 6 then 577 else s.fd
def fdF (s : StepS) : Int := if pickF (s.kind.tdiv 16) 8 = 7 then s.fd else if s.fd < 0 then (-(s.fd + 1)) % 6 else s.fd % 6
end Go.Proofs.Ytmiggpnkicdijaa

namespace Go.Proofs.Ytmiggpnkicdijaa
open Go Go.RowKit
set_option linter.unusedVariables false
set_option linter.unnecessarySimpa false
set_option linter.unusedSimpArgs false

set_option maxHeartbeats 400000 in
theorem flags36 (s : StepS) (hk : StepOk s) :
    ACalls Try.prog 36 [.agg (stepCells s)] [] fun t S => t = .v (.int .i64 (flagsF s)) := by
  obtain ⟨k0, k1, f0, f1, n1, nm1, tx1⟩ := hk
  have hq0 : -9223372036854775808 ≤ s.kind.tdiv 128 ∧ s.kind.tdiv 128 ≤ 9223372036854775807 := tdiv_in (by omega) (by omega)
  refine ACalls.intro Try.func36 rfl Try.ntmps36 (Nat.le_of_ble_eq_true rfl) rfl fun X w0 => ?_
  refine AW.rseq ?_
  refine AWL.boxOp rfl rfl (B rfl) rfl (E rfl rfl) rfl (fun b1 => ?_)
  refine Y1 (Yv.assign rfl eV) ?_
  refine nl ?_
  refine AW.seq ?_
  refine AW.rseq ?_
  refine Y1 (Yv.fieldBox rfl fo_58_0 eV) ?_
  refine Y1 (Yv.loadBox rfl ag_3 (i := 0) rfl (E rfl rfl) rfl) ?_
  refine Y1 (Yv.quo rfl (E rfl rfl) (E rfl rfl) (fun hg => by omega)) ?_
  have e5 : IntKind.i64.wrap (s.kind.tdiv 128) = s.kind.tdiv 128 := IntWalk.i64_in _ hq0
  rw [e5]
  refine AWL.callP rfl rfl (B rfl) rfl ce_11 (E rfl rfl) (evsC (E rfl rfl) (evsC (E rfl rfl) evs0)) (pick11 (s.kind.tdiv 128) 8 hq0.1 hq0.2 (by decide)) (fun t S h => h) ?_
  refine nl ?_
  refine AW.block ?_
  refine AW.seq ?_
  refine AW.rseq ?_
  refine Y1 (Yv.eql rfl eV eV) ?_
  refine Y1 (Yv.assign rfl eV) ?_
  refine nl ?_
  refine AW.cond rfl (fun h0t => ?_) (fun h0f => ?_)
  ·
   try replace h0t := of_decide_eq_true h0t
   refine AW.skip ?_
   refine AW.cond rfl (fun h1t => ?_) (fun h1f => ?_)
   ·
    try replace h1t := of_decide_eq_true h1t
    refine AW.rseq ?_
    refine Y1 (Yv.assign rfl eV) ?_
    refine nl ?_
    refine AW.ret (retI (.tmp rfl .nil) ?_)
    refine congrArg (fun z => T.v (Value.int IntKind.i64 z)) ?_
    unfold flagsF
    repeat' split
    all_goals omega
   · exfalso; replace h1f := of_decide_eq_false h1f; omega
  try replace h0f := of_decide_eq_false h0f
  refine AW.rseq ?_
  refine Y1 (Yv.eql rfl eV eV) ?_
  refine Y1 (Yv.assign rfl eV) ?_
  refine nl ?_
  refine AW.cond rfl (fun h2t => ?_) (fun h2f => ?_)
  ·
   try replace h2t := of_decide_eq_true h2t
   refine AW.skip ?_
   refine AW.cond rfl (fun h3t => ?_) (fun h3f => ?_)
   ·
    try replace h3t := of_decide_eq_true h3t
    refine AW.rseq ?_
    refine Y1 (Yv.assign rfl eV) ?_
    refine nl ?_
    refine AW.ret (retI (.tmp rfl .nil) ?_)
    refine congrArg (fun z => T.v (Value.int IntKind.i64 z)) ?_
    unfold flagsF
    repeat' split
    all_goals omega
   · exfalso; replace h3f := of_decide_eq_false h3f; omega
  try replace h2f := of_decide_eq_false h2f
  refine AW.region ?_
  refine Y1 (Yv.eql rfl eV eV) ?_
  refine Y1 (Yv.assign rfl eV) ?_
  refine nl ?_
  refine AW.cond rfl (fun h4t => ?_) (fun h4f => ?_)
  ·
   try replace h4t := of_decide_eq_true h4t
   refine AW.rseq ?_
   refine Y1 (Yv.assign rfl eV) ?_
   refine nl ?_
   refine AW.ret (retI (.tmp rfl .nil) ?_)
   refine congrArg (fun z => T.v (Value.int IntKind.i64 z)) ?_
   unfold flagsF
   repeat' split
   all_goals omega
  try replace h4f := of_decide_eq_false h4f
  refine AW.seq ?_
  refine AW.rseq ?_
  refine Y1 (Yv.eql rfl eV eV) ?_
  refine Y1 (Yv.assign rfl eV) ?_
  refine nl ?_
  refine AW.cond rfl (fun h5t => ?_) (fun h5f => ?_)
  ·
   try replace h5t := of_decide_eq_true h5t
   refine AW.skip ?_
   refine AW.cond rfl (fun h6t => ?_) (fun h6f => ?_)
   ·
    try replace h6t := of_decide_eq_true h6t
    refine AW.rseq ?_
    refine Y1 (Yv.assign rfl eV) ?_
    refine nl ?_
    refine AW.ret (retI (.tmp rfl .nil) ?_)
    refine congrArg (fun z => T.v (Value.int IntKind.i64 z)) ?_
    unfold flagsF
    repeat' split
    all_goals omega
   · exfalso; replace h6f := of_decide_eq_false h6f; omega
  try replace h5f := of_decide_eq_false h5f
  refine AW.rseq ?_
  refine Y1 (Yv.eql rfl eV eV) ?_
  refine Y1 (Yv.assign rfl eV) ?_
  refine nl ?_
  refine AW.cond rfl (fun h7t => ?_) (fun h7f => ?_)
  ·
   try replace h7t := of_decide_eq_true h7t
   refine AW.skip ?_
   refine AW.cond rfl (fun h8t => ?_) (fun h8f => ?_)
   ·
    try replace h8t := of_decide_eq_true h8t
    refine AW.rseq ?_
    refine Y1 (Yv.assign rfl eV) ?_
    refine nl ?_
    refine AW.ret (retI (.tmp rfl .nil) ?_)
    refine congrArg (fun z => T.v (Value.int IntKind.i64 z)) ?_
    unfold flagsF
    repeat' split
    all_goals omega
   · exfalso; replace h8f := of_decide_eq_false h8f; omega
  try replace h7f := of_decide_eq_false h7f
  refine AW.rseq ?_
  refine Y1 (Yv.eql rfl eV eV) ?_
  refine Y1 (Yv.assign rfl eV) ?_
  refine nl ?_
  refine AW.cond rfl (fun h9t => ?_) (fun h9f => ?_)
  ·
   try replace h9t := of_decide_eq_true h9t
   refine AW.skip ?_
   refine AW.cond rfl (fun h10t => ?_) (fun h10f => ?_)
   ·
    try replace h10t := of_decide_eq_true h10t
    refine AW.rseq ?_
    refine Y1 (Yv.assign rfl eV) ?_
    refine nl ?_
    refine AW.ret (retI (.tmp rfl .nil) ?_)
    refine congrArg (fun z => T.v (Value.int IntKind.i64 z)) ?_
    unfold flagsF
    repeat' split
    all_goals omega
   · exfalso; replace h10f := of_decide_eq_false h10f; omega
  try replace h9f := of_decide_eq_false h9f
  refine AW.region ?_
  refine Y1 (Yv.eql rfl eV eV) ?_
  refine Y1 (Yv.assign rfl eV) ?_
  refine nl ?_
  refine AW.cond rfl (fun h11t => ?_) (fun h11f => ?_)
  ·
   try replace h11t := of_decide_eq_true h11t
   refine AW.rseq ?_
   refine Y1 (Yv.assign rfl eV) ?_
   refine nl ?_
   refine AW.ret (retI (.tmp rfl .nil) ?_)
   refine congrArg (fun z => T.v (Value.int IntKind.i64 z)) ?_
   unfold flagsF
   repeat' split
   all_goals omega
  try replace h11f := of_decide_eq_false h11f
  refine AW.skip ?_
  refine AW.rseq ?_
  refine Y1 (Yv.fieldBox rfl fo_58_1 eV) ?_
  refine Y1 (Yv.loadBox rfl ag_2 (i := 0) rfl (E rfl rfl) rfl) ?_
  refine Y1 (Yv.assign rfl eV) ?_
  refine nl ?_
  refine AW.ret (retI (.tmp rfl .nil) ?_)
  refine congrArg (fun z => T.v (Value.int IntKind.i64 z)) ?_
  unfold flagsF
  repeat' split
  all_goals omega

set_option maxHeartbeats 400000 in
theorem fd38 (s : StepS) (hk : StepOk s) :
    ACalls Try.prog 38 [.agg (stepCells s)] [] fun t S => t = .v (.int .i64 (fdF s)) := by
  obtain ⟨k0, k1, f0, f1, n1, nm1, tx1⟩ := hk
  have hq0 : -9223372036854775808 ≤ s.kind.tdiv 16 ∧ s.kind.tdiv 16 ≤ 9223372036854775807 := tdiv_in (by omega) (by omega)
  refine ACalls.intro Try.func38 rfl Try.ntmps38 (Nat.le_of_ble_eq_true rfl) rfl fun X w0 => ?_
  refine AW.rseq ?_
  refine AWL.boxOp rfl rfl (B rfl) rfl (E rfl rfl) rfl (fun b1 => ?_)
  refine Y1 (Yv.assign rfl eV) ?_
  refine nl ?_
  refine AW.seq ?_
  refine AW.rseq ?_
  refine Y1 (Yv.fieldBox rfl fo_58_0 eV) ?_
  refine Y1 (Yv.loadBox rfl ag_3 (i := 0) rfl (E rfl rfl) rfl) ?_
  refine Y1 (Yv.quo rfl (E rfl rfl) (E rfl rfl) (fun hg => by omega)) ?_
  have e5 : IntKind.i64.wrap (s.kind.tdiv 16) = s.kind.tdiv 16 := IntWalk.i64_in _ hq0
  rw [e5]
  refine AWL.callP rfl rfl (B rfl) rfl ce_11 (E rfl rfl) (evsC (E rfl rfl) (evsC (E rfl rfl) evs0)) (pick11 (s.kind.tdiv 16) 8 hq0.1 hq0.2 (by decide)) (fun t S h => h) ?_
  refine Y1 (Yv.eql rfl eV eV) ?_
  refine nl ?_
  refine AW.cond rfl (fun h0t => ?_) (fun h0f => ?_)
  ·
   try replace h0t := of_decide_eq_true h0t
   refine AW.rseq ?_
   refine Y1 (Yv.fieldBox rfl fo_58_1 eV) ?_
   refine Y1 (Yv.loadBox rfl ag_2 (i := 0) rfl (E rfl rfl) rfl) ?_
   refine Y1 (Yv.assign rfl eV) ?_
   refine nl ?_
   refine AW.ret (retI (.tmp rfl .nil) ?_)
   refine congrArg (fun z => T.v (Value.int IntKind.i64 z)) ?_
   unfold fdF
   repeat' split
   all_goals omega
  try replace h0f := of_decide_eq_false h0f
  refine AW.skip ?_
  refine AW.seq ?_
  refine AW.rseq ?_
  refine Y1 (Yv.fieldBox rfl fo_58_1 eV) ?_
  refine Y1 (Yv.loadBox rfl ag_2 (i := 0) rfl (E rfl rfl) rfl) ?_
  refine Y1 (Yv.lss rfl eV eV) ?_
  refine nl ?_
  refine AW.cond rfl (fun h1t => ?_) (fun h1f => ?_)
  ·
   try replace h1t := of_decide_eq_true h1t
   refine AW.rseq ?_
   refine Y1 (Yv.fieldBox rfl fo_58_1 eV) ?_
   refine Y1 (Yv.loadBox rfl ag_2 (i := 0) rfl (E rfl rfl) rfl) ?_
   refine Y1 (Yv.addN_i64 rfl (E rfl rfl) (E rfl rfl) (fun hg => by omega)) ?_
   refine Y1 (Yv.neg rfl (E rfl rfl)) ?_
   have e9 : IntKind.i64.wrap (0 - (s.fd + 1)) = -(s.fd + 1) := by rw [IntWalk.i64_in _ (by omega)]; omega
   rw [e9]
   refine Y1 (Yv.remN rfl (E rfl rfl) (E rfl rfl) (fun hg => by omega)) ?_
   refine Y1 (Yv.assign rfl eV) ?_
   refine nl ?_
   refine AW.ret (retI (.tmp rfl .nil) ?_)
   refine congrArg (fun z => T.v (Value.int IntKind.i64 z)) ?_
   unfold fdF
   repeat' split
   all_goals omega
  try replace h1f := of_decide_eq_false h1f
  refine AW.skip ?_
  refine AW.rseq ?_
  refine Y1 (Yv.fieldBox rfl fo_58_1 eV) ?_
  refine Y1 (Yv.loadBox rfl ag_2 (i := 0) rfl (E rfl rfl) rfl) ?_
  refine Y1 (Yv.remN rfl (E rfl rfl) (E rfl rfl) (fun hg => by omega)) ?_
  refine Y1 (Yv.assign rfl eV) ?_
  refine nl ?_
  refine AW.ret (retI (.tmp rfl .nil) ?_)
  refine congrArg (fun z => T.v (Value.int IntKind.i64 z)) ?_
  unfold fdF
  repeat' split
  all_goals omega

end Go.Proofs.Ytmiggpnkicdijaa
