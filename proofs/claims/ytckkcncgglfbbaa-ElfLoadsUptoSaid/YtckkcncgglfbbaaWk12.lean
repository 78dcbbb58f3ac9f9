/-
  CONTRACTS of the elf package: images handed back in rows; spoiling; walked by program.
-/
import Derived.Test.YtckkcncgglfbbaaWk5
import Derived.Test.YtckkcncgglfbbaaFresh
import Derived.Test.YtckkcncgglfbbaaFacts2
namespace Go.Proofs.Ytckkcncgglfbbaa
open Go Go.RowKit
set_option linter.unusedVariables false
set_option linter.unnecessarySimpa false

set_option maxHeartbeats 400000 in
theorem clone40R (bs : List UInt8) (h1 : bs.length ≤ 140737488355000) :
    ACalls Try.prog 40 [u8s bs] [] (fun t_ S => ∃ (A : Option Addr) (c : Nat), t_ = .v (.slice A bs.length c) ∧ bs.length ≤ c ∧ S = [.row A c c 5 1 ((bs ++ List.replicate (c - bs.length) 0).map u8)]) := by
  refine ACalls.intro Try.func40 rfl Try.ntmps40 (Nat.le_of_ble_eq_true rfl) rfl fun X w0 => ?_
  refine AW.rseq ?_
  refine AWL.y rfl rfl (B rfl) (Yv.assign rfl (E rfl rfl)) ?_
  refine AWL.nil ?_
  refine AW.seq ?_
  refine AW.rseq ?_
  refine AWL.y rfl rfl (B rfl) (Yv.move rfl (E rfl rfl)) ?_
  refine AWL.yx rfl rfl (B rfl) (Yx.eqNil rfl so_27 (E rfl rfl)) ?_
  rintro t4 ⟨v4, rfl, hnil4⟩
  refine AWL.nil ?_
  refine AW.cond rfl (fun h0t => ?_) (fun h0f => ?_)
  ·
    try replace h0t := of_decide_eq_true h0t
    refine AW.rseq ?_
    refine AWL.y rfl rfl (B rfl) (Yv.assign rfl (E rfl rfl)) ?_
    refine AWL.nil ?_
    refine AW.rowNil 5 1 ?_
    refine AW.ret (retI (.tmp rfl .nil) ?_)
    have hb := List.map_eq_nil_iff.1 (hnil4 h0t)
    subst hb
    exact ⟨none, 0, rfl, Nat.le_refl _, rfl⟩
  ·
    try replace h0f := of_decide_eq_false h0f
    refine AW.skip ?_
    refine AW.rseq ?_
    refine AWL.buildSliceRow rfl rfl (B rfl) rfl el_27 (B rfl) rfl evs0 (Nat.le_of_ble_eq_true rfl) rfl rfl (fun A5 => ?_)
    refine AWL.y rfl rfl (B rfl) (Yv.move rfl (E rfl rfl)) ?_
    refine AWL.appendFresh (i := 0) rfl rfl (B rfl) rfl el_27 rfl rfl (E rfl rfl) (SrcT.sl so_27 (B rfl) (E rfl rfl) len_u8s) (by unfold maxLen; omega) (by omega) (fun A7 c7 hc7 => ?_)
    refine AWL.y rfl rfl (B rfl) (Yv.assign rfl (E rfl rfl)) ?_
    refine AWL.nil ?_
    refine AW.ret (retI (.tmp rfl .nil) ?_)
    exact ⟨A7, c7, rfl, hc7, by rw [List.map_append, List.map_replicate]; rfl⟩

set_option maxHeartbeats 400000 in
theorem part38R (bs : List UInt8) (a : Int) (h0 : 0 ≤ a) (h1 : a + 56 ≤ bs.length) (h2 : bs.length ≤ 1099511627776) :
    ACalls Try.prog 38 [u8s bs, .v (.int .u64 a)] [] (fun t_ S => ∃ (f : Fs) (E E2 : Ent), t_ = .tup [.agg (sCells f), .v (.bool (partOk bs a))] ∧ S = [E, E2, sRow f] ∧ FsOk f ∧ (partOk bs a = true → f.s = partSeg bs a)) := by
  have n1 := num8 bs (a + 8)
  have n2 := num8 bs (a + 32)
  have n3 := num8 bs (a + 16)
  have n4 := num8 bs (a + 40)
  have n5 := num4 bs (a + 4)
  refine ACalls.intro Try.func38 rfl Try.ntmps38 (Nat.le_of_ble_eq_true rfl) rfl fun X w0 => ?_
  refine AW.rseq ?_
  refine AWL.allocOp rfl rfl (B rfl) rfl zc_42 (fun b4 => ?_)
  refine AWL.y rfl rfl (B rfl) (Yv.assign rfl (E rfl rfl)) ?_
  refine AWL.nil ?_
  refine AW.rseq ?_
  refine AWL.y rfl rfl (B rfl) (Yv.move rfl (E rfl rfl)) ?_
  refine AWL.y rfl rfl (B rfl) (Yv.move rfl (E rfl rfl)) ?_
  refine AWL.y rfl rfl (B rfl) (Yv.addN_u64 rfl (E rfl rfl) (E rfl rfl) (fun hg => by omega)) ?_
  refine AWL.callP rfl rfl (B rfl) rfl ce_36 (E rfl rfl) (evsC (E rfl rfl) (evsC (E rfl rfl) evs0)) (take36 bs _ (by omega) (by omega) (by omega)) (fun t S h => h) ?_
  refine AWL.y rfl rfl (B rfl) (Yv.move rfl (E rfl rfl)) ?_
  refine AWL.y rfl rfl (B rfl) (Yv.move rfl (E rfl rfl)) ?_
  refine AWL.y rfl rfl (B rfl) (Yv.addN_u64 rfl (E rfl rfl) (E rfl rfl) (fun hg => by omega)) ?_
  refine AWL.callP rfl rfl (B rfl) rfl ce_36 (E rfl rfl) (evsC (E rfl rfl) (evsC (E rfl rfl) evs0)) (take36 bs _ (by omega) (by omega) (by omega)) (fun t S h => h) ?_
  refine AWL.y rfl rfl (B rfl) (Yv.assign rfl (E rfl rfl)) ?_
  refine AWL.y rfl rfl (B rfl) (Yv.assign rfl (E rfl rfl)) ?_
  refine AWL.nil ?_
  refine AW.rseq ?_
  refine AWL.y rfl rfl (B rfl) (Yv.move rfl (E rfl rfl)) ?_
  refine AWL.y rfl rfl (B rfl) (Yv.move rfl (E rfl rfl)) ?_
  refine AWL.y rfl rfl (B rfl) (Yv.addN_u64 rfl (E rfl rfl) (E rfl rfl) (fun hg => by omega)) ?_
  refine AWL.callP rfl rfl (B rfl) rfl ce_36 (E rfl rfl) (evsC (E rfl rfl) (evsC (E rfl rfl) evs0)) (take36 bs _ (by omega) (by omega) (by omega)) (fun t S h => h) ?_
  refine AWL.y rfl rfl (B rfl) (Yv.move rfl (E rfl rfl)) ?_
  refine AWL.y rfl rfl (B rfl) (Yv.move rfl (E rfl rfl)) ?_
  refine AWL.y rfl rfl (B rfl) (Yv.addN_u64 rfl (E rfl rfl) (E rfl rfl) (fun hg => by omega)) ?_
  refine AWL.callP rfl rfl (B rfl) rfl ce_36 (E rfl rfl) (evsC (E rfl rfl) (evsC (E rfl rfl) evs0)) (take36 bs _ (by omega) (by omega) (by omega)) (fun t S h => h) ?_
  refine AWL.y rfl rfl (B rfl) (Yv.move rfl (E rfl rfl)) ?_
  refine AWL.y rfl rfl (B rfl) (Yv.move rfl (E rfl rfl)) ?_
  refine AWL.y rfl rfl (B rfl) (Yv.addN_u64 rfl (E rfl rfl) (E rfl rfl) (fun hg => by omega)) ?_
  refine AWL.callP rfl rfl (B rfl) rfl ce_35 (E rfl rfl) (evsC (E rfl rfl) (evsC (E rfl rfl) evs0)) (take35 bs _ (by omega) (by omega) (by omega)) (fun t S h => h) ?_
  refine AWL.y rfl rfl (B rfl) (Yv.andN_u32 3 8 (by decide) (by decide) (by decide) rfl (E rfl rfl) (E rfl rfl) (fun hg => ⟨by omega, by omega⟩)) ?_
  refine AWL.y rfl rfl (B rfl) (Yv.convN_i64 rfl Try.underlying45 kd_3 (E rfl rfl) (fun hg => by omega)) ?_
  refine AWL.y rfl rfl (B rfl) (Yv.buildS rfl sh_42 (evpC (E rfl rfl) (evpC (E rfl rfl) (evpC (E rfl rfl) evp0))) (fun _ => rfl)) ?_
  refine AWL.allocOp rfl rfl (B rfl) rfl zc_42 (fun b8 => ?_)
  refine AWL.storeBox (i := 1) rfl rfl rfl ag_42 rfl (E rfl rfl) (E rfl rfl) rfl rfl (Nat.le_of_ble_eq_true rfl) ?_
  refine AWL.nil ?_
  refine AW.seq ?_
  refine AW.rseq ?_
  refine AWL.y rfl rfl (B rfl) (Yv.move rfl (E rfl rfl)) ?_
  refine AWL.y rfl rfl (B rfl) (Yv.move rfl (E rfl rfl)) ?_
  refine AWL.y rfl rfl (B rfl) (Yv.move rfl (E rfl rfl)) ?_
  refine AWL.callP rfl rfl (B rfl) rfl ce_37 (E rfl rfl) (evsC (E rfl rfl) (evsC (E rfl rfl) (evsC (E rfl rfl) evs0))) (within37 bs _ _ (by omega) (by omega) (by omega) (by omega)) (fun t S h => h) ?_
  refine AWL.y rfl rfl (B rfl) (Yv.not rfl (E rfl rfl)) ?_
  refine AWL.y rfl rfl (B rfl) (Yv.move rfl (E rfl rfl)) ?_
  refine AWL.ygF rfl rfl rfl rfl (B rfl) (Yv.fieldBox rfl fo_42_0 (E rfl rfl)) ?_
  refine AWL.ygF rfl rfl rfl rfl (B rfl) (Yv.loadBox rfl ag_22 (i := 1) rfl (Eg rfl rfl id) rfl) ?_
  refine AWL.ygF rfl rfl rfl rfl (B rfl) (Yv.remN rfl (Eg rfl rfl id) (E rfl rfl) (fun hg => by first | omega | (simp only [Bool.and_eq_true, Bool.or_eq_false_iff, Bool.not_eq_true', Bool.not_eq_false', decide_eq_true_eq, decide_eq_false_iff_not] at hg; omega))) ?_
  refine AWL.ygF rfl rfl rfl rfl (B rfl) (Yv.move rfl (E rfl rfl)) ?_
  refine AWL.ygF rfl rfl rfl rfl (B rfl) (Yv.remN rfl (Eg rfl rfl id) (E rfl rfl) (fun hg => by first | omega | (simp only [Bool.and_eq_true, Bool.or_eq_false_iff, Bool.not_eq_true', Bool.not_eq_false', decide_eq_true_eq, decide_eq_false_iff_not] at hg; omega))) ?_
  refine AWL.ygF rfl rfl rfl rfl (B rfl) (Yv.neq rfl (Eg rfl rfl id) (Eg rfl rfl id)) ?_
  refine AWL.y rfl rfl (B rfl) (Yv.pickOr (t := .const (.bool true)) rfl (E rfl rfl) (Eg rfl rfl id)) ?_
  refine AWL.nil ?_
  refine AW.cond rfl (fun h0t => ?_) (fun h0f => ?_)
  ·
    try replace h0t := of_decide_eq_true h0t
    refine AW.rowNil 5 1 ?_
    refine AW.rseq ?_
    refine AWL.y rfl rfl (B rfl) (Yv.loadBoxA rfl ag_42 (i := 1) rfl (E rfl rfl) rfl rfl) ?_
    refine AWL.storeBox (i := 0) rfl rfl rfl ag_42 rfl (E rfl rfl) (E rfl rfl) rfl rfl (Nat.le_of_ble_eq_true rfl) ?_
    refine AWL.y rfl rfl (B rfl) (Yv.assign rfl (E rfl rfl)) ?_
    refine AWL.nil ?_
    refine AW.ret (retI (.cellA (i := 0) rfl ag_42 rfl rfl rfl (.tmp rfl .nil)) ?_)
    simp only [Bool.or_eq_true, Bool.and_eq_true, Bool.or_eq_false_iff, Bool.and_eq_false_iff, Bool.not_eq_true', Bool.not_eq_false', decide_eq_true_eq, decide_eq_false_iff_not, Decidable.not_not] at h0t
    have hc : partOk bs a = false := by
      rw [← Bool.not_eq_true]
      simp only [partOk, Bool.and_eq_true, decide_eq_true_eq]
      omega
    rw [hc]
    exact ⟨⟨none, 0, 0, ⟨num bs (a + 16) 8, num bs (a + 40) 8, num bs (a + 4) 4 % 8, []⟩⟩, _, _, rfl, rfl, ⟨Nat.le_refl _, rfl⟩, fun h => by cases h⟩
  ·
    try replace h0f := of_decide_eq_false h0f
    simp only [Bool.or_eq_true, Bool.and_eq_true, Bool.or_eq_false_iff, Bool.and_eq_false_iff, Bool.not_eq_true', Bool.not_eq_false', decide_eq_true_eq, decide_eq_false_iff_not, Decidable.not_not] at h0f
    obtain ⟨⟨w1, w2⟩, w3⟩ := h0f
    refine AW.skip ?_
    refine AW.rseq ?_
    refine AWL.y rfl rfl (B rfl) (Yv.move rfl (E rfl rfl)) ?_
    refine AWL.y rfl rfl (B rfl) (Yv.move rfl (E rfl rfl)) ?_
    refine AWL.y rfl rfl (B rfl) (Yv.move rfl (E rfl rfl)) ?_
    refine AWL.y rfl rfl (B rfl) (Yv.move rfl (E rfl rfl)) ?_
    refine AWL.y rfl rfl (B rfl) (Yv.addN_u64 rfl (E rfl rfl) (E rfl rfl) (fun hg => by omega)) ?_
    refine AWL.y rfl rfl (B rfl) (Yv.sliceMap rfl ss_27 (E rfl rfl) (Bound.some_ (E rfl rfl) (fun hg => (Int.toNat_of_nonneg (by omega)).symm)) (Bound.some_ (E rfl rfl) (fun hg => (Int.toNat_of_nonneg (by omega)).symm)) (fun hg => ⟨by omega, by omega⟩)) ?_
    refine AWL.call rfl rfl (B rfl) rfl ce_40 (E rfl rfl) (evsC (E rfl rfl) evs0) (S1 := []) (S2 := _) rfl (clone40R _ (by simp only [List.length_take, List.length_drop]; omega)) ?_
    rintro t52 S52 ⟨A52, c52, rfl, hle, rfl⟩
    refine AWL.y rfl rfl (B rfl) (Yv.fieldBox rfl fo_42_3 (E rfl rfl)) ?_
    refine AWL.storeBox (i := 2) rfl rfl rfl ag_27 rfl (E rfl rfl) (E rfl rfl) rfl rfl (Nat.le_of_ble_eq_true rfl) ?_
    refine AWL.nil ?_
    refine AW.rseq ?_
    refine AWL.y rfl rfl (B rfl) (Yv.loadBoxA rfl ag_42 (i := 2) rfl (E rfl rfl) rfl rfl) ?_
    refine AWL.storeBox (i := 1) rfl rfl rfl ag_42 rfl (E rfl rfl) (E rfl rfl) rfl rfl (Nat.le_of_ble_eq_true rfl) ?_
    refine AWL.y rfl rfl (B rfl) (Yv.assign rfl (E rfl rfl)) ?_
    refine AWL.nil ?_
    refine AW.perm (List.perm_append_comm (l₁ := [_, _]) (l₂ := [_])) ?_
    refine AW.ret (retI (.cellA (i := 0) rfl ag_42 rfl rfl rfl (.tmp rfl .nil)) ?_)
    have hc : partOk bs a = true := by
      simp only [partOk, Bool.and_eq_true, decide_eq_true_eq]
      exact ⟨⟨w1, w2⟩, w3⟩
    rw [hc]
    have e : (num bs (a + 8) 8 + num bs (a + 32) 8).toNat - (num bs (a + 8) 8).toNat = (num bs (a + 32) 8).toNat := by omega
    rw [e] at hle ⊢
    exact ⟨⟨A52, _, c52, partSeg bs a⟩, _, _, rfl, rfl, ⟨hle, rfl⟩, fun _ => rfl⟩

set_option maxHeartbeats 1000000 in
theorem load29R (bs : List UInt8) (h2 : bs.length ≤ 1099511627776) :
    ACalls Try.prog 29 [u8s bs] [] (fun t_ S => ∃ (e : Int) (A : Option Addr) (c : Nat) (fs : List Fs) (e0 e1 : Ent), t_ = .tup [.agg [.v (.int .u64 e), .v (.slice A fs.length c)], .v (.bool (loadF bs).isSome)] ∧ S = [e0, e1, .row A fs.length c 42 4 (fs.flatMap sCells)] ++ fs.map sRow ∧ (∀ f ∈ fs, FsOk f) ∧ ∀ i, loadF bs = some i → e = i.entry ∧ fs.map (·.s) = i.segs) := by
  have n1 := num8 bs 24
  have n2 := num8 bs 32
  have n3 := num2 bs 56
  refine ACalls.intro Try.func29 rfl Try.ntmps29 (Nat.le_of_ble_eq_true rfl) rfl fun X w0 => ?_
  refine AW.rseq ?_
  refine AWL.allocOp rfl rfl (B rfl) rfl zc_25 (fun b2 => ?_)
  refine AWL.y rfl rfl (B rfl) (Yv.assign rfl (E rfl rfl)) ?_
  refine AWL.nil ?_
  refine AW.rseq ?_
  refine AWL.allocOp rfl rfl (B rfl) rfl zc_25 (fun b4 => ?_)
  refine AWL.nil ?_
  refine AW.rowNil 42 4 ?_
  refine AW.seq ?_
  refine AW.rseq ?_
  refine AWL.y rfl rfl (B rfl) (Yv.move rfl (E rfl rfl)) ?_
  refine AWL.y rfl rfl (B rfl) (Yv.lenSl rfl so_27 (B rfl) (E rfl rfl) len_u8s) ?_
  refine AWL.y rfl rfl (B rfl) (Yv.lss rfl (E rfl rfl) (E rfl rfl)) ?_
  refine AWL.y rfl rfl (B rfl) (Yv.move rfl (E rfl rfl)) ?_
  refine AWL.ygF rfl rfl rfl rfl (B rfl) (Yv.move rfl (E rfl rfl)) ?_
  refine AWL.ygF rfl rfl rfl rfl (B rfl) (Yv.sliceMap rfl ss_27 (Eg rfl rfl id) Bound.none_ (Bound.some_ (E rfl rfl) (fun hg => (Int.toNat_of_nonneg (by omega)).symm)) (fun hg => ⟨by first | omega | (simp only [Bool.and_eq_true, Bool.or_eq_false_iff, Bool.not_eq_true', Bool.not_eq_false', decide_eq_true_eq, decide_eq_false_iff_not] at hg; omega), by first | omega | (simp only [Bool.and_eq_true, Bool.or_eq_false_iff, Bool.not_eq_true', Bool.not_eq_false', decide_eq_true_eq, decide_eq_false_iff_not] at hg; omega)⟩)) ?_
  refine AWL.ygF rfl rfl rfl rfl (B rfl) (Yv.bytesStr rfl by_27 st_9 (Eg rfl rfl id)) ?_
  refine AWL.callPgF rfl rfl rfl rfl (B rfl) rfl ce_33 (E rfl rfl) (evsC (Eg rfl rfl id) (evsC (E rfl rfl) evs0)) (fun hg => hasPrefix33 _ _ (by simp only [ByteArray.size, List.size_toArray, List.length_take, List.length_drop]; omega) (by decide)) (fun t S h => h) ?_
  refine AWL.ygF rfl rfl rfl rfl (B rfl) (Yv.not rfl (Eg rfl rfl id)) ?_
  refine AWL.y rfl rfl (B rfl) (Yv.pickOr (t := .const (.bool true)) rfl (E rfl rfl) (Eg rfl rfl id)) ?_
  refine AWL.nil ?_
  refine AW.cond rfl (fun h0t => ?_) (fun h0f => ?_)
  ·
    try replace h0t := of_decide_eq_true h0t
    rw [Bool.or_eq_true] at h0t
    replace h0t := h0t.imp of_decide_eq_true id
    refine AW.rseq ?_
    refine AWL.y rfl rfl (B rfl) (Yv.loadBoxA rfl ag_25 (i := 1) rfl (E rfl rfl) rfl rfl) ?_
    refine AWL.storeBox (i := 0) rfl rfl rfl ag_25 rfl (E rfl rfl) (E rfl rfl) rfl rfl (Nat.le_of_ble_eq_true rfl) ?_
    refine AWL.y rfl rfl (B rfl) (Yv.assign rfl (E rfl rfl)) ?_
    refine AWL.nil ?_
    refine AW.ret (retI (.cellA (i := 0) rfl ag_25 rfl rfl rfl (.tmp rfl .nil)) ?_)
    have hc : loadF bs = none := by
      apply loadF_hdr
      rw [← Bool.not_eq_true]
      intro hh
      simp only [hdrB, Bool.and_eq_true, decide_eq_true_eq] at hh
      obtain ⟨⟨q1, q2⟩, q3⟩ := hh
      rcases h0t with h | h
      · omega
      · rw [head_magic (by omega), q2] at h
        simp at h
    rw [hc]
    exact ⟨_, none, 0, [], _, _, rfl, rfl, fun f h => (by cases h), fun i h => by cases h⟩
  ·
    try replace h0f := of_decide_eq_false h0f
    rw [Bool.or_eq_false_iff] at h0f
    obtain ⟨g1, g2⟩ := h0f
    replace g1 := of_decide_eq_false g1
    rw [head_magic (by omega)] at g2
    simp only [Bool.not_eq_false', decide_eq_true_eq] at g2
    refine AW.skip ?_
    refine AW.seq ?_
    refine AW.rseq ?_
    refine AWL.y rfl rfl (B rfl) (Yv.move rfl (E rfl rfl)) ?_
    refine AWL.callP rfl rfl (B rfl) rfl ce_34 (E rfl rfl) (evsC (E rfl rfl) (evsC (E rfl rfl) evs0)) (take34 bs _ (by omega) (by omega) (by omega)) (fun t S h => h) ?_
    refine AWL.y rfl rfl (B rfl) (Yv.neq rfl (E rfl rfl) (E rfl rfl)) ?_
    refine AWL.y rfl rfl (B rfl) (Yv.move rfl (E rfl rfl)) ?_
    refine AWL.ygF rfl rfl rfl rfl (B rfl) (Yv.move rfl (E rfl rfl)) ?_
    refine AWL.callPgF rfl rfl rfl rfl (B rfl) rfl ce_34 (E rfl rfl) (evsC (Eg rfl rfl id) (evsC (E rfl rfl) evs0)) (fun hg => take34 bs _ (by omega) (by omega) (by omega)) (fun t S h => h) ?_
    refine AWL.ygF rfl rfl rfl rfl (B rfl) (Yv.neq rfl (Eg rfl rfl id) (E rfl rfl)) ?_
    refine AWL.y rfl rfl (B rfl) (Yv.pickOr (t := .const (.bool true)) rfl (E rfl rfl) (Eg rfl rfl id)) ?_
    refine AWL.y rfl rfl (B rfl) (Yv.move rfl (E rfl rfl)) ?_
    refine AWL.ygF rfl rfl rfl rfl (B rfl) (Yv.move rfl (E rfl rfl)) ?_
    refine AWL.callPgF rfl rfl rfl rfl (B rfl) rfl ce_35 (E rfl rfl) (evsC (Eg rfl rfl id) (evsC (E rfl rfl) evs0)) (fun hg => take35 bs _ (by omega) (by omega) (by omega)) (fun t S h => h) ?_
    refine AWL.ygF rfl rfl rfl rfl (B rfl) (Yv.neq rfl (Eg rfl rfl id) (E rfl rfl)) ?_
    refine AWL.y rfl rfl (B rfl) (Yv.pickOr (t := .const (.bool true)) rfl (E rfl rfl) (Eg rfl rfl id)) ?_
    refine AWL.y rfl rfl (B rfl) (Yv.move rfl (E rfl rfl)) ?_
    refine AWL.ygF rfl rfl rfl rfl (B rfl) (Yv.move rfl (E rfl rfl)) ?_
    refine AWL.callPgF rfl rfl rfl rfl (B rfl) rfl ce_34 (E rfl rfl) (evsC (Eg rfl rfl id) (evsC (E rfl rfl) evs0)) (fun hg => take34 bs _ (by omega) (by omega) (by omega)) (fun t S h => h) ?_
    refine AWL.ygF rfl rfl rfl rfl (B rfl) (Yv.neq rfl (Eg rfl rfl id) (E rfl rfl)) ?_
    refine AWL.y rfl rfl (B rfl) (Yv.pickOr (t := .const (.bool true)) rfl (E rfl rfl) (Eg rfl rfl id)) ?_
    refine AWL.y rfl rfl (B rfl) (Yv.move rfl (E rfl rfl)) ?_
    refine AWL.ygF rfl rfl rfl rfl (B rfl) (Yv.move rfl (E rfl rfl)) ?_
    refine AWL.callPgF rfl rfl rfl rfl (B rfl) rfl ce_34 (E rfl rfl) (evsC (Eg rfl rfl id) (evsC (E rfl rfl) evs0)) (fun hg => take34 bs _ (by omega) (by omega) (by omega)) (fun t S h => h) ?_
    refine AWL.ygF rfl rfl rfl rfl (B rfl) (Yv.neq rfl (Eg rfl rfl id) (E rfl rfl)) ?_
    refine AWL.y rfl rfl (B rfl) (Yv.pickOr (t := .const (.bool true)) rfl (E rfl rfl) (Eg rfl rfl id)) ?_
    refine AWL.nil ?_
    refine AW.cond rfl (fun h1t => ?_) (fun h1f => ?_)
    ·
      try replace h1t := of_decide_eq_true h1t
      simp only [Bool.or_eq_true, Bool.and_eq_true, Bool.or_eq_false_iff, Bool.and_eq_false_iff, Bool.not_eq_true', Bool.not_eq_false', decide_eq_true_eq, decide_eq_false_iff_not, Decidable.not_not] at h1t
      refine AW.rseq ?_
      refine AWL.y rfl rfl (B rfl) (Yv.loadBoxA rfl ag_25 (i := 1) rfl (E rfl rfl) rfl rfl) ?_
      refine AWL.storeBox (i := 0) rfl rfl rfl ag_25 rfl (E rfl rfl) (E rfl rfl) rfl rfl (Nat.le_of_ble_eq_true rfl) ?_
      refine AWL.y rfl rfl (B rfl) (Yv.assign rfl (E rfl rfl)) ?_
      refine AWL.nil ?_
      refine AW.ret (retI (.cellA (i := 0) rfl ag_25 rfl rfl rfl (.tmp rfl .nil)) ?_)
      have hc : loadF bs = none := by
        apply loadF_hdr
        rw [← Bool.not_eq_true]
        simp only [hdrB, kindsB, Bool.and_eq_true, decide_eq_true_eq]
        omega
      rw [hc]
      exact ⟨_, none, 0, [], _, _, rfl, rfl, fun f h => (by cases h), fun i h => by cases h⟩
    ·
      try replace h1f := of_decide_eq_false h1f
      simp only [Bool.or_eq_true, Bool.and_eq_true, Bool.or_eq_false_iff, Bool.and_eq_false_iff, Bool.not_eq_true', Bool.not_eq_false', decide_eq_true_eq, decide_eq_false_iff_not, Decidable.not_not] at h1f
      obtain ⟨⟨⟨⟨k1, k2⟩, k3⟩, k4⟩, k5⟩ := h1f
      have hh : hdrB bs = true := by
        simp only [hdrB, kindsB, Bool.and_eq_true, decide_eq_true_eq]
        exact ⟨⟨by omega, g2⟩, ⟨⟨⟨k1, k2⟩, k3⟩, k4⟩, k5⟩
      refine AW.skip ?_
      refine AW.rseq ?_
      refine AWL.y rfl rfl (B rfl) (Yv.move rfl (E rfl rfl)) ?_
      refine AWL.callP rfl rfl (B rfl) rfl ce_36 (E rfl rfl) (evsC (E rfl rfl) (evsC (E rfl rfl) evs0)) (take36 bs _ (by omega) (by omega) (by omega)) (fun t S h => h) ?_
      refine AWL.y rfl rfl (B rfl) (Yv.fieldBox rfl fo_25_0 (E rfl rfl)) ?_
      refine AWL.storeBox (i := 1) rfl rfl rfl ag_22 rfl (E rfl rfl) (E rfl rfl) rfl rfl (Nat.le_of_ble_eq_true rfl) ?_
      refine AWL.nil ?_
      refine AW.rseq ?_
      refine AWL.y rfl rfl (B rfl) (Yv.move rfl (E rfl rfl)) ?_
      refine AWL.callP rfl rfl (B rfl) rfl ce_36 (E rfl rfl) (evsC (E rfl rfl) (evsC (E rfl rfl) evs0)) (take36 bs _ (by omega) (by omega) (by omega)) (fun t S h => h) ?_
      refine AWL.y rfl rfl (B rfl) (Yv.move rfl (E rfl rfl)) ?_
      refine AWL.callP rfl rfl (B rfl) rfl ce_34 (E rfl rfl) (evsC (E rfl rfl) (evsC (E rfl rfl) evs0)) (take34 bs _ (by omega) (by omega) (by omega)) (fun t S h => h) ?_
      refine AWL.y rfl rfl (B rfl) (Yv.convN_u64 rfl Try.underlying47 kd_22 (E rfl rfl) (fun hg => by omega)) ?_
      refine AWL.y rfl rfl (B rfl) (Yv.assign rfl (E rfl rfl)) ?_
      refine AWL.y rfl rfl (B rfl) (Yv.assign rfl (E rfl rfl)) ?_
      refine AWL.nil ?_
      refine AW.seq ?_
      refine AW.rseq ?_
      refine AWL.y rfl rfl (B rfl) (Yv.move rfl (E rfl rfl)) ?_
      refine AWL.y rfl rfl (B rfl) (Yv.lss rfl (E rfl rfl) (E rfl rfl)) ?_
      refine AWL.y rfl rfl (B rfl) (Yv.move rfl (E rfl rfl)) ?_
      refine AWL.ygF rfl rfl rfl rfl (B rfl) (Yv.move rfl (E rfl rfl)) ?_
      refine AWL.ygF rfl rfl rfl rfl (B rfl) (Yv.gtr rfl (Eg rfl rfl id) (E rfl rfl)) ?_
      refine AWL.y rfl rfl (B rfl) (Yv.pickOr (t := .const (.bool true)) rfl (E rfl rfl) (Eg rfl rfl id)) ?_
      refine AWL.y rfl rfl (B rfl) (Yv.move rfl (E rfl rfl)) ?_
      refine AWL.ygF rfl rfl rfl rfl (B rfl) (Yv.move rfl (E rfl rfl)) ?_
      refine AWL.ygF rfl rfl rfl rfl (B rfl) (Yv.move rfl (E rfl rfl)) ?_
      refine AWL.ygF rfl rfl rfl rfl (B rfl) (Yv.move rfl (E rfl rfl)) ?_
      refine AWL.ygF rfl rfl rfl rfl (B rfl) (Yv.mulN_u64 rfl (Eg rfl rfl id) (E rfl rfl) (fun hg => by first | omega | (simp only [Bool.and_eq_true, Bool.or_eq_false_iff, Bool.not_eq_true', Bool.not_eq_false', decide_eq_true_eq, decide_eq_false_iff_not] at hg; omega))) ?_
      refine AWL.callPgF rfl rfl rfl rfl (B rfl) rfl ce_37 (E rfl rfl) (evsC (Eg rfl rfl id) (evsC (Eg rfl rfl id) (evsC (Eg rfl rfl id) evs0))) (fun hg => within37 bs _ _ (by omega) (by omega) (by omega) (by omega)) (fun t S h => h) ?_
      refine AWL.ygF rfl rfl rfl rfl (B rfl) (Yv.not rfl (Eg rfl rfl id)) ?_
      refine AWL.y rfl rfl (B rfl) (Yv.pickOr (t := .const (.bool true)) rfl (E rfl rfl) (Eg rfl rfl id)) ?_
      refine AWL.nil ?_
      refine AW.cond rfl (fun h2t => ?_) (fun h2f => ?_)
      ·
        try replace h2t := of_decide_eq_true h2t
        simp only [Bool.or_eq_true, Bool.and_eq_true, Bool.or_eq_false_iff, Bool.and_eq_false_iff, Bool.not_eq_true', Bool.not_eq_false', decide_eq_true_eq, decide_eq_false_iff_not, Decidable.not_not] at h2t
        refine AW.rseq ?_
        refine AWL.y rfl rfl (B rfl) (Yv.loadBoxA rfl ag_25 (i := 1) rfl (E rfl rfl) rfl rfl) ?_
        refine AWL.storeBox (i := 0) rfl rfl rfl ag_25 rfl (E rfl rfl) (E rfl rfl) rfl rfl (Nat.le_of_ble_eq_true rfl) ?_
        refine AWL.y rfl rfl (B rfl) (Yv.assign rfl (E rfl rfl)) ?_
        refine AWL.nil ?_
        refine AW.ret (retI (.cellA (i := 0) rfl ag_25 rfl rfl rfl (.tmp rfl .nil)) ?_)
        have hc : loadF bs = none := by
          apply loadF_tab
          rw [← Bool.not_eq_true]
          simp only [tableOk, Bool.and_eq_true, decide_eq_true_eq]
          omega
        rw [hc]
        exact ⟨_, none, 0, [], _, _, rfl, rfl, fun f h => (by cases h), fun i h => by cases h⟩
      ·
        try replace h2f := of_decide_eq_false h2f
        simp only [Bool.or_eq_true, Bool.and_eq_true, Bool.or_eq_false_iff, Bool.and_eq_false_iff, Bool.not_eq_true', Bool.not_eq_false', decide_eq_true_eq, decide_eq_false_iff_not, Decidable.not_not] at h2f
        obtain ⟨⟨t1, t2⟩, t3, t4⟩ := h2f
        have ht : tableOk bs = true := by
          simp only [tableOk, Bool.and_eq_true, decide_eq_true_eq]
          exact ⟨⟨⟨by omega, by omega⟩, by omega⟩, by omega⟩
        refine AW.skip ?_
        refine AW.seq ?_
        refine AW.rseq ?_
        refine AWL.y rfl rfl (B rfl) (Yv.move rfl (E rfl rfl)) ?_
        refine AWL.y rfl rfl (B rfl) (Yv.assign rfl (E rfl rfl)) ?_
        refine AWL.nil ?_
        refine AW.block ?_
        refine AW.loop4 (fun (j : Nat) (l : List Fs) (A : Option Addr) (c : Nat) => [(0, true, u8s bs), (2, true, .v (.pointer (some ⟨b2, 0, none⟩))), (4, true, .v (.pointer (some ⟨b4, 0, none⟩))), (5, true, .v (.int .u64 (num bs 32 8))), (6, true, .v (.int .u64 (num bs 56 2))), (7, true, .v (.int .u64 (num bs 32 8 + 56 * (j : Int))))]) (fun (j : Nat) (l : List Fs) (A : Option Addr) (c : Nat) => ([.box b2 25 [.v (.int .u64 0), .v (.slice none 0 0)], .box b4 25 [.v (.int .u64 (num bs 24 8)), .v (.slice A l.length c)], .row A l.length c 42 4 (l.flatMap sCells)] ++ l.map sRow)) (fun (j : Nat) (l : List Fs) (A : Option Addr) (c : Nat) => j ≤ (num bs 56 2).toNat ∧ l.length ≤ j ∧ (loadRows bs ((num bs 56 2).toNat - j) (num bs 32 8 + 56 * (j : Int))).map (l.map (·.s) ++ ·) = loadRows bs (num bs 56 2).toNat (num bs 32 8) ∧ ∀ f ∈ l, FsOk f) (fun (j : Nat) (l : List Fs) (A : Option Addr) (c : Nat) => (num bs 56 2).toNat - j) 0 ([]) none 0 ?_ ?_ ?_ ?_
        · exact ⟨Nat.zero_le _, Nat.le_refl _, by simp, fun f h => by cases h⟩
        · exact Sub.cons rfl rfl (Sub.cons rfl rfl (Sub.cons rfl rfl (Sub.cons rfl rfl (Sub.cons rfl rfl (Sub.cons rfl (by simp) Sub.nil)))))
        · rfl
        ·
          intro j l A c hinv
          obtain ⟨hj, hl, hrows, hfk⟩ := hinv
          refine AW.seq ?_
          refine AW.rseq ?_
          refine AWL.y rfl rfl (B rfl) (Yv.move rfl (E rfl rfl)) ?_
          refine AWL.y rfl rfl (B rfl) (Yv.move rfl (E rfl rfl)) ?_
          refine AWL.y rfl rfl (B rfl) (Yv.move rfl (E rfl rfl)) ?_
          refine AWL.y rfl rfl (B rfl) (Yv.mulN_u64 rfl (E rfl rfl) (E rfl rfl) (fun hg => by omega)) ?_
          refine AWL.y rfl rfl (B rfl) (Yv.addN_u64 rfl (E rfl rfl) (E rfl rfl) (fun hg => by omega)) ?_
          refine AWL.y rfl rfl (B rfl) (Yv.lss rfl (E rfl rfl) (E rfl rfl)) ?_
          refine AWL.nil ?_
          refine AW.cond rfl (fun h3t => ?_) (fun h3f => ?_)
          ·
            try replace h3t := of_decide_eq_true h3t
            refine AW.skip ?_
            refine AW.seq ?_
            refine AW.block ?_
            refine AW.rseq ?_
            refine AWL.y rfl rfl (B rfl) (Yv.move rfl (E rfl rfl)) ?_
            refine AWL.y rfl rfl (B rfl) (Yv.move rfl (E rfl rfl)) ?_
            refine AWL.callP rfl rfl (B rfl) rfl ce_35 (E rfl rfl) (evsC (E rfl rfl) (evsC (E rfl rfl) evs0)) (take35 bs _ (by omega) (by omega) (by omega)) (fun t S h => h) ?_
            refine AWL.nil ?_
            refine AW.block ?_
            refine AW.seq ?_
            refine AW.rseq ?_
            refine AWL.y rfl rfl (B rfl) (Yv.eql rfl (E rfl rfl) (E rfl rfl)) ?_
            refine AWL.y rfl rfl (B rfl) (Yv.assign rfl (E rfl rfl)) ?_
            refine AWL.nil ?_
            refine AW.cond rfl (fun h4t => ?_) (fun h4f => ?_)
            ·
              try replace h4t := of_decide_eq_true h4t
              refine AW.skip ?_
              refine AW.cond rfl (fun h5t => ?_) (fun h5f => ?_)
              ·
                try replace h5t := of_decide_eq_true h5t
                refine AW.exit ?_
                refine AW.region ?_
                refine AWL.y rfl rfl (B rfl) (Yv.move rfl (E rfl rfl)) ?_
                refine AWL.y rfl rfl (B rfl) (Yv.addN_u64 rfl (E rfl rfl) (E rfl rfl) (fun hg => by omega)) ?_
                refine AWL.y rfl rfl (B rfl) (Yv.assign rfl (E rfl rfl)) ?_
                refine AWL.nil ?_
                rw [rows_skip (by omega) (by omega)] at hrows
                refine ⟨j + 1, l, A, c, ⟨by omega, by omega, ?_, hfk⟩, by omega, ?_, rfl⟩
                · rw [← hrows]; congr 2 <;> omega
                · exact Sub.cons rfl rfl (Sub.cons rfl rfl (Sub.cons rfl rfl (Sub.cons rfl rfl (Sub.cons rfl rfl (Sub.cons rfl (by congr 2; omega) Sub.nil)))))
              ·
                try replace h5f := of_decide_eq_false h5f
                exact absurd h4t h5f
            ·
              try replace h4f := of_decide_eq_false h4f
              refine AW.region ?_
              refine AWL.y rfl rfl (B rfl) (Yv.eql rfl (E rfl rfl) (E rfl rfl)) ?_
              refine AWL.y rfl rfl (B rfl) (Yv.assign rfl (E rfl rfl)) ?_
              refine AWL.nil ?_
              refine AW.cond rfl (fun h6t => ?_) (fun h6f => ?_)
              ·
                try replace h6t := of_decide_eq_true h6t
                refine AW.exit ?_
                refine AW.region ?_
                refine AWL.y rfl rfl (B rfl) (Yv.move rfl (E rfl rfl)) ?_
                refine AWL.y rfl rfl (B rfl) (Yv.addN_u64 rfl (E rfl rfl) (E rfl rfl) (fun hg => by omega)) ?_
                refine AWL.y rfl rfl (B rfl) (Yv.assign rfl (E rfl rfl)) ?_
                refine AWL.nil ?_
                rw [rows_skip (by omega) (by omega)] at hrows
                refine ⟨j + 1, l, A, c, ⟨by omega, by omega, ?_, hfk⟩, by omega, ?_, rfl⟩
                · rw [← hrows]; congr 2 <;> omega
                · exact Sub.cons rfl rfl (Sub.cons rfl rfl (Sub.cons rfl rfl (Sub.cons rfl rfl (Sub.cons rfl rfl (Sub.cons rfl (by congr 2; omega) Sub.nil)))))
              ·
                try replace h6f := of_decide_eq_false h6f
                refine AW.rseq ?_
                refine AWL.y rfl rfl (B rfl) (Yv.eql rfl (E rfl rfl) (E rfl rfl)) ?_
                refine AWL.y rfl rfl (B rfl) (Yv.assign rfl (E rfl rfl)) ?_
                refine AWL.nil ?_
                refine AW.cond rfl (fun h7t => ?_) (fun h7f => ?_)
                ·
                  try replace h7t := of_decide_eq_true h7t
                  refine AW.rseq ?_
                  refine AWL.y rfl rfl (B rfl) (Yv.move rfl (E rfl rfl)) ?_
                  refine AWL.y rfl rfl (B rfl) (Yv.move rfl (E rfl rfl)) ?_
                  refine AWL.call rfl rfl (B rfl) rfl ce_38 (E rfl rfl) (evsC (E rfl rfl) (evsC (E rfl rfl) evs0)) (S1 := []) (S2 := _) rfl (part38R bs _ (by omega) (by omega) h2) ?_
                  rintro t89 S89 ⟨f, E89, F89, rfl, rfl, hf1, hf3⟩
                  refine AWL.dropAt 1 (AWL.dropAt 0 ?_)
                  refine AWL.y rfl rfl (B rfl) (Yv.move rfl (E rfl rfl)) ?_
                  refine AWL.y rfl rfl (B rfl) (Yv.extract rfl (E rfl rfl) rfl) ?_
                  refine AWL.y rfl rfl (B rfl) (Yv.extract rfl (E rfl rfl) rfl) ?_
                  refine AWL.allocOp rfl rfl (B rfl) rfl zc_42 (fun b8 => ?_)
                  refine AWL.perm (perm_ins [sRow f] ([_, _, _] ++ l.map sRow) _) ?_
                  refine AWL.storeBox (i := 1) rfl rfl rfl ag_42 rfl (E rfl rfl) (E rfl rfl) rfl rfl (Nat.le_of_ble_eq_true rfl) ?_
                  refine AWL.y rfl rfl (B rfl) (Yv.assign rfl (E rfl rfl)) ?_
                  refine AWL.nil ?_
                  refine AW.seq ?_
                  refine AW.rseq ?_
                  refine AWL.y rfl rfl (B rfl) (Yv.move rfl (E rfl rfl)) ?_
                  refine AWL.y rfl rfl (B rfl) (Yv.not rfl (E rfl rfl)) ?_
                  refine AWL.nil ?_
                  refine AW.cond rfl (fun h8t => ?_) (fun h8f => ?_)
                  ·
                    try replace h8t := of_decide_eq_true h8t
                    refine AW.rseq ?_
                    refine AWL.y rfl rfl (B rfl) (Yv.loadBoxA rfl ag_25 (i := 3) rfl (E rfl rfl) rfl rfl) ?_
                    refine AWL.storeBox (i := 2) rfl rfl rfl ag_25 rfl (E rfl rfl) (E rfl rfl) rfl rfl (Nat.le_of_ble_eq_true rfl) ?_
                    refine AWL.y rfl rfl (B rfl) (Yv.assign rfl (E rfl rfl)) ?_
                    refine AWL.nil ?_
                    refine AW.dropAt 1 (AW.dropAt 0 ?_)
                    refine AW.ret (retI (.cellA (i := 0) rfl ag_25 rfl rfl rfl (.tmp rfl .nil)) ?_)
                    simp only [Bool.not_eq_true'] at h8t
                    have hc : loadF bs = none := by
                      rw [loadF_rows hh ht, ← hrows, rows_bad (by omega) h4f h6f (fun _ => h8t)]
                      rfl
                    rw [hc]
                    exact ⟨_, A, c, l, _, _, rfl, rfl, hfk, fun i h => by cases h⟩
                  ·
                    try replace h8f := of_decide_eq_false h8f
                    simp only [Bool.not_eq_false'] at h8f
                    have hpk := h8f
                    refine AW.skip ?_
                    refine AW.region ?_
                    refine AWL.y rfl rfl (B rfl) (Yv.fieldBox rfl fo_25_1 (E rfl rfl)) ?_
                    refine AWL.y rfl rfl (B rfl) (Yv.loadBox rfl ag_23 (i := 3) rfl (E rfl rfl) rfl) ?_
                    refine AWL.y rfl rfl (B rfl) (Yv.loadBoxA rfl ag_42 (i := 1) rfl (E rfl rfl) rfl rfl) ?_
                    refine AWL.buildSliceE rfl rfl (B rfl) rfl el_23 (B rfl) rfl (evsC (E rfl rfl) evs0) (Nat.le_of_ble_eq_true rfl) rfl rfl ?_
                    refine AWL.appendRow (i := 4) rfl rfl (B rfl) rfl el_23 (B rfl) rfl (E rfl rfl) (SrcT.sl so_23 (B rfl) (E rfl rfl) rfl) (by unfold maxLen; omega) (by omega) (fun A99 c99 => ?_)
                    refine AWL.y rfl rfl (B rfl) (Yv.fieldBox rfl fo_25_1 (E rfl rfl)) ?_
                    refine AWL.storeBox (i := 3) rfl rfl rfl ag_23 rfl (E rfl rfl) (E rfl rfl) rfl rfl (Nat.le_of_ble_eq_true rfl) ?_
                    refine AWL.dropAt 1 ?_
                    refine AWL.perm (List.perm_append_comm (l₁ := [_, _, _] ++ l.map sRow) (l₂ := [_])) ?_
                    refine AWL.nil ?_
                    refine AW.region ?_
                    refine AWL.y rfl rfl (B rfl) (Yv.move rfl (E rfl rfl)) ?_
                    refine AWL.y rfl rfl (B rfl) (Yv.addN_u64 rfl (E rfl rfl) (E rfl rfl) (fun hg => by omega)) ?_
                    refine AWL.y rfl rfl (B rfl) (Yv.assign rfl (E rfl rfl)) ?_
                    refine AWL.nil ?_
                    rw [rows_load (by omega) h7t hpk] at hrows
                    refine ⟨j + 1, l ++ [f], A99, c99, ⟨by omega, by simp; omega, ?_, fun q hq => ?_⟩, by omega, ?_, ?_⟩
                    · rw [← hrows, Option.map_map, List.map_append, List.map_singleton, hf3 hpk]; congr 2
                      · funext x; simp
                      · omega
                    · rcases List.mem_append.1 hq with h | h
                      · exact hfk q h
                      · simp only [List.mem_singleton] at h; subst h; exact hf1
                    · exact Sub.cons rfl rfl (Sub.cons rfl rfl (Sub.cons rfl rfl (Sub.cons rfl rfl (Sub.cons rfl rfl (Sub.cons rfl (by congr 2; omega) Sub.nil)))))
                    · simp only [List.length_append, List.length_singleton, fs_flat, fs_map, List.append_assoc]; rfl
                ·
                  try replace h7f := of_decide_eq_false h7f
                  refine AW.rseq ?_
                  refine AWL.y rfl rfl (B rfl) (Yv.loadBoxA rfl ag_25 (i := 1) rfl (E rfl rfl) rfl rfl) ?_
                  refine AWL.storeBox (i := 0) rfl rfl rfl ag_25 rfl (E rfl rfl) (E rfl rfl) rfl rfl (Nat.le_of_ble_eq_true rfl) ?_
                  refine AWL.y rfl rfl (B rfl) (Yv.assign rfl (E rfl rfl)) ?_
                  refine AWL.nil ?_
                  refine AW.ret (retI (.cellA (i := 0) rfl ag_25 rfl rfl rfl (.tmp rfl .nil)) ?_)
                  have hc : loadF bs = none := by
                    rw [loadF_rows hh ht, ← hrows, rows_bad (by omega) h4f h6f (fun h => absurd h h7f)]
                    rfl
                  rw [hc]
                  exact ⟨_, A, c, l, _, _, rfl, rfl, hfk, fun i h => by cases h⟩
          ·
            try replace h3f := of_decide_eq_false h3f
            refine AW.exit ?_
            refine AW.rseq ?_
            refine AWL.y rfl rfl (B rfl) (Yv.loadBoxA rfl ag_25 (i := 1) rfl (E rfl rfl) rfl rfl) ?_
            refine AWL.storeBox (i := 0) rfl rfl rfl ag_25 rfl (E rfl rfl) (E rfl rfl) rfl rfl (Nat.le_of_ble_eq_true rfl) ?_
            refine AWL.y rfl rfl (B rfl) (Yv.assign rfl (E rfl rfl)) ?_
            refine AWL.nil ?_
            refine AW.ret (retI (.cellA (i := 0) rfl ag_25 rfl rfl rfl (.tmp rfl .nil)) ?_)
            have hc : loadF bs = some ⟨num bs 24 8, l.map (·.s)⟩ := by
              rw [loadF_rows hh ht, ← hrows, rows_done (by omega)]
              simp
            rw [hc]
            refine ⟨_, A, c, l, _, _, rfl, rfl, hfk, fun i h => ?_⟩
            obtain rfl := Option.some.inj h
            exact ⟨rfl, rfl⟩

set_option maxHeartbeats 400000 in
theorem Load16R (bs : List UInt8) (h2 : bs.length ≤ 1099511627776) :
    ACalls Try.prog 16 [u8s bs] [] (fun t_ S => ∃ (e : Int) (A : Option Addr) (c : Nat) (fs : List Fs) (e0 e1 : Ent), t_ = .tup [.agg [.v (.int .u64 e), .v (.slice A fs.length c)], .v (.int .i64 (if (LoadF bs).isSome then 0 else 240))] ∧ S = [e0, e1, .row A fs.length c 42 4 (fs.flatMap sCells)] ++ fs.map sRow ∧ (∀ f ∈ fs, FsOk f) ∧ e = ((LoadF bs).getD ⟨0, []⟩).entry ∧ fs.map (·.s) = ((LoadF bs).getD ⟨0, []⟩).segs) := by
  refine ACalls.intro Try.func16 rfl Try.ntmps16 (Nat.le_of_ble_eq_true rfl) rfl fun X w0 => ?_
  refine AW.rseq ?_
  refine AWL.allocOp rfl rfl (B rfl) rfl zc_25 (fun b2 => ?_)
  refine AWL.y rfl rfl (B rfl) (Yv.assign rfl (E rfl rfl)) ?_
  refine AWL.nil ?_
  refine AW.rseq ?_
  refine AWL.y rfl rfl (B rfl) (Yv.move rfl (E rfl rfl)) ?_
  refine AWL.call rfl rfl (B rfl) rfl ce_29 (E rfl rfl) (evsC (E rfl rfl) evs0) (S1 := []) (S2 := _) rfl (load29R bs h2) ?_
  rintro t8 S8 ⟨e8, A8, c8, fs, e0, e1, rfl, rfl, hfk, hi8⟩
  refine AWL.dropAt 1 (AWL.dropAt 0 ?_)
  refine AWL.perm (List.perm_append_comm (l₁ := [.box b2 25 [.v (.int .u64 0), .v (.slice none 0 0)]]) (l₂ := ([Ent.row A8 fs.length c8 42 4 (fs.flatMap sCells)] ++ fs.map sRow))) ?_
  refine AWL.y rfl rfl (B rfl) (Yv.move rfl (E rfl rfl)) ?_
  refine AWL.y rfl rfl (B rfl) (Yv.extract rfl (E rfl rfl) rfl) ?_
  refine AWL.y rfl rfl (B rfl) (Yv.extract rfl (E rfl rfl) rfl) ?_
  refine AWL.allocOp rfl rfl (B rfl) rfl zc_25 (fun b4 => ?_)
  refine AWL.perm (List.perm_append_singleton _ _).symm ?_
  refine AWL.storeBox (i := 0) rfl rfl rfl ag_25 rfl (E rfl rfl) (E rfl rfl) rfl rfl (Nat.le_of_ble_eq_true rfl) ?_
  refine AWL.y rfl rfl (B rfl) (Yv.assign rfl (E rfl rfl)) ?_
  refine AWL.nil ?_
  refine AW.eqS (S' := (.box b4 25 [.v (.int .u64 e8), .v (.slice A8 fs.length c8)] :: .box b2 25 [.v (.int .u64 0), .v (.slice none 0 0)] :: ([Ent.row A8 fs.length c8 42 4 (fs.flatMap sCells)] ++ fs.map sRow))) rfl ?_
  refine AW.seq ?_
  refine AW.rseq ?_
  refine AWL.y rfl rfl (B rfl) (Yv.move rfl (E rfl rfl)) ?_
  refine AWL.y rfl rfl (B rfl) (Yv.not rfl (E rfl rfl)) ?_
  refine AWL.y rfl rfl (B rfl) (Yv.move rfl (E rfl rfl)) ?_
  refine AWL.ygF rfl rfl rfl rfl (B rfl) (Yv.loadBoxA rfl ag_25 (i := 0) rfl (E rfl rfl) rfl rfl) ?_
  refine AWL.callSeesF (ts := [.agg [.v (.int .u64 e8), .sl 4 ((fs.map (·.s)).flatMap segCells)], .v (.bool false)]) rfl rfl rfl rfl (B rfl) rfl ce_24 (E rfl rfl) (Seens.two (sees_img (fs := fs) (Eg rfl rfl id) (List.mem_cons_of_mem _ (List.mem_cons_of_mem _ (List.mem_append.2 (.inl (List.mem_singleton.2 rfl))))) (fun f hf => List.mem_cons_of_mem _ (List.mem_cons_of_mem _ (List.mem_append.2 (.inr (List.mem_map_of_mem hf))))) hfk rfl) (Sees.ev (E rfl rfl))) (fun hg => chk24 h2 (fun i h => ⟨(hi8 i h).1, by rw [(hi8 i h).2]⟩) hg) (fun t S h => h) ?_
  refine AWL.ygF rfl rfl rfl rfl (B rfl) (Yv.neq rfl (Eg rfl rfl id) (E rfl rfl)) ?_
  refine AWL.y rfl rfl (B rfl) (Yv.pickOr (t := .const (.bool true)) rfl (E rfl rfl) (Eg rfl rfl id)) ?_
  refine AWL.nil ?_
  refine AW.cond rfl (fun h0t => ?_) (fun h0f => ?_)
  ·
    try replace h0t := of_decide_eq_true h0t
    refine AW.rseq ?_
    refine AWL.y rfl rfl (B rfl) (Yv.buildS rfl sh_25 evp0 (fun _ => rfl)) ?_
    refine AWL.storeBox (i := 1) rfl rfl rfl ag_25 rfl (E rfl rfl) (E rfl rfl) rfl rfl (Nat.le_of_ble_eq_true rfl) ?_
    refine AWL.y rfl rfl (B rfl) (Yv.assign rfl (E rfl rfl)) ?_
    refine AWL.nil ?_
    refine AW.drop (List.take_sublist 2 _) ?_
    refine AW.rowNil 42 4 ?_
    refine AW.ret (retI (.cellA (i := 1) rfl ag_25 rfl rfl rfl (.tmp rfl .nil)) ?_)
    have hc : LoadF bs = none := LoadF_none (by simpa using h0t)
    rw [hc]
    exact ⟨_, none, 0, [], _, _, rfl, rfl, fun f h => (by cases h), rfl, rfl⟩
  ·
    try replace h0f := of_decide_eq_false h0f
    refine AW.skip ?_
    refine AW.rseq ?_
    refine AWL.y rfl rfl (B rfl) (Yv.loadBoxA rfl ag_25 (i := 0) rfl (E rfl rfl) rfl rfl) ?_
    refine AWL.storeBox (i := 1) rfl rfl rfl ag_25 rfl (E rfl rfl) (E rfl rfl) rfl rfl (Nat.le_of_ble_eq_true rfl) ?_
    refine AWL.y rfl rfl (B rfl) (Yv.assign rfl (E rfl rfl)) ?_
    refine AWL.nil ?_
    refine AW.ret (retI (.cellA (i := 1) rfl ag_25 rfl rfl rfl (.tmp rfl .nil)) ?_)
    obtain ⟨i, hc, hc2⟩ := LoadF_some (by simpa using h0f)
    obtain ⟨g1, g2⟩ := hi8 i hc2
    rw [hc]
    exact ⟨e8, A8, c8, fs, _, _, rfl, rfl, hfk, g1, g2⟩

set_option maxHeartbeats 400000 in
theorem spoil18 (e : Int) (A : Option Addr) (c : Nat) (fs : List Fs) (hk : ∀ f ∈ fs, FsOk f) :
    ACalls Try.prog 18 [.agg [.v (.int .u64 e), .v (.slice A fs.length c)]] ([.row A fs.length c 42 4 (fs.flatMap sCells)] ++ fs.map sRow) (fun _ _ => True) := by
  refine ACalls.intro Try.func18 rfl Try.ntmps18 (Nat.le_of_ble_eq_true rfl) rfl fun X w0 => ?_
  refine AW.rseq ?_
  refine AWL.boxOp rfl rfl (B rfl) rfl (E rfl rfl) rfl (fun b1 => ?_)
  refine AWL.perm (List.perm_append_singleton _ _).symm ?_
  refine AWL.nil ?_
  refine AW.rowMax 1 rfl (fun hn2 hc2 hl2 => ?_)
  unfold maxLen at hc2
  refine AW.rseq ?_
  refine AWL.y rfl rfl (B rfl) (Yv.assign rfl (E rfl rfl)) ?_
  refine AWL.nil ?_
  refine AW.block ?_
  refine AW.loop2 (fun (j : Nat) (pre : List T) => [(1, true, .v (.pointer (some ⟨b1, 0, none⟩))), (2, true, .v (.int .i64 (j : Int)))]) (fun (j : Nat) (pre : List T) => (.box b1 25 [.v (.int .u64 e), .v (.slice A fs.length c)] :: .row A fs.length c 42 4 (pre ++ (fs.drop j).flatMap sCells) :: (fs.drop j).map sRow)) (fun (j : Nat) (pre : List T) => j ≤ fs.length ∧ pre.length = j * 4) (fun (j : Nat) (pre : List T) => fs.length - j) 0 ([]) ?_ ?_ ?_ ?_
  · exact ⟨Nat.zero_le _, rfl⟩
  · exact (Sub.cons rfl rfl (Sub.cons rfl rfl Sub.nil))
  · rfl
  ·
    intro j pre hinv
    obtain ⟨hjl, hpre⟩ := hinv
    refine AW.seq ?_
    refine AW.rseq ?_
    refine AWL.y rfl rfl (B rfl) (Yv.move rfl (E rfl rfl)) ?_
    refine AWL.y rfl rfl (B rfl) (Yv.fieldBox rfl fo_25_1 (E rfl rfl)) ?_
    refine AWL.y rfl rfl (B rfl) (Yv.loadBox rfl ag_23 (i := 0) rfl (E rfl rfl) rfl) ?_
    refine AWL.y rfl rfl (B rfl) (Yv.lenV rfl so_23 (E rfl rfl)) ?_
    refine AWL.y rfl rfl (B rfl) (Yv.lss rfl (E rfl rfl) (E rfl rfl)) ?_
    refine AWL.nil ?_
    refine AW.cond rfl (fun h0t => ?_) (fun h0f => ?_)
    ·
      try replace h0t := of_decide_eq_true h0t
      refine AW.skip ?_
      refine AW.seq ?_
      refine AW.block ?_
      have hfo := hk (fs.getD j default) (by simpa [show j < fs.length by omega] using List.getElem_mem (l := fs) (n := j) (by omega))
      refine AW.eqS (S' := .box b1 25 [.v (.int .u64 e), .v (.slice A fs.length c)] :: .row A fs.length c 42 4 (pre ++ (sCells (fs.getD j default) ++ (fs.drop (j + 1)).flatMap sCells)) :: sRow (fs.getD j default) :: (fs.drop (j + 1)).map sRow) (by rw [drop_fs (show j < fs.length by omega)]; rfl) ?_
      refine AW.rowMax 2 rfl (fun hn3 hc3 hl3 => ?_)
      unfold maxLen at hc3
      refine AW.rseqQ rfl (by kernel_rfl) ?_
      refine AWQ.y rfl rfl (B rfl) (Yv.fieldBox rfl fo_25_1 (E rfl rfl)) ?_
      refine AWQ.y rfl rfl (B rfl) (Yv.loadBox rfl ag_23 (i := 0) rfl (E rfl rfl) rfl) ?_
      refine AWQ.y rfl rfl (B rfl) (Yv.move rfl (E rfl rfl)) ?_
      refine AWQ.y rfl rfl (B rfl) (Yv.indexRow rfl ss_23 (i := 1) rfl (E rfl rfl) (E rfl rfl) (fun hg => ⟨rfl, by omega⟩)) ?_
      refine AWQ.y rfl rfl (B rfl) (Yv.fieldEp rfl fo_42_3 (E rfl rfl)) ?_
      refine AWQ.y rfl rfl (B rfl) (Yv.loadEp rfl ag_27 (i := 1) rfl (E rfl rfl) (fun hg => fs_at hpre)) ?_
      refine AWQ.y rfl rfl (B rfl) (Yv.fieldBox rfl fo_25_1 (E rfl rfl)) ?_
      refine AWQ.y rfl rfl (B rfl) (Yv.loadBox rfl ag_23 (i := 0) rfl (E rfl rfl) rfl) ?_
      refine AWQ.y rfl rfl (B rfl) (Yv.move rfl (E rfl rfl)) ?_
      refine AWQ.y rfl rfl (B rfl) (Yv.indexRow rfl ss_23 (i := 1) rfl (E rfl rfl) (E rfl rfl) (fun hg => ⟨rfl, by omega⟩)) ?_
      refine AWQ.y rfl rfl (B rfl) (Yv.fieldEp rfl fo_42_3 (E rfl rfl)) ?_
      refine AWQ.y rfl rfl (B rfl) (Yv.loadEp rfl ag_27 (i := 1) rfl (E rfl rfl) (fun hg => fs_at hpre)) ?_
      refine AWQ.y rfl rfl (B rfl) (Yv.capV rfl so_27 (E rfl rfl)) ?_
      refine AWQ.y rfl rfl (B rfl) (Yv.sliceFull (c := (fs.getD j default).c) rfl ss_27 (E rfl rfl) (Bound.some_ (E rfl rfl) (fun _ => rfl))) ?_
      refine AWQ.y rfl rfl (B rfl) (Yv.assign rfl (E rfl rfl)) ?_
      refine AWQ.nil ?_
      refine AW.seq ?_
      refine AW.rseq ?_
      refine AWL.y rfl rfl (B rfl) (Yv.assign rfl (E rfl rfl)) ?_
      refine AWL.nil ?_
      refine AW.block ?_
      refine AW.loop2 (fun (k : Nat) (ds : List UInt8) => [(1, true, .v (.pointer (some ⟨b1, 0, none⟩))), (2, true, .v (.int .i64 (j : Int))), (3, true, .v (.slice (fs.getD j default).A (fs.getD j default).c (fs.getD j default).c)), (4, true, .v (.int .i64 (k : Int)))]) (fun (k : Nat) (ds : List UInt8) => (.box b1 25 [.v (.int .u64 e), .v (.slice A fs.length c)] :: .row A fs.length c 42 4 (pre ++ (sCells (fs.getD j default) ++ (fs.drop (j + 1)).flatMap sCells)) :: .row (fs.getD j default).A (fs.getD j default).c (fs.getD j default).c 5 1 (ds.map u8) :: (fs.drop (j + 1)).map sRow)) (fun (k : Nat) (ds : List UInt8) => k ≤ (fs.getD j default).c ∧ ds.length = (fs.getD j default).c) (fun (k : Nat) (ds : List UInt8) => (fs.getD j default).c - k) 0 ((fullB (fs.getD j default))) ?_ ?_ ?_ ?_
      · exact ⟨Nat.zero_le _, full_len hfo⟩
      · exact (Sub.cons rfl rfl (Sub.cons rfl rfl (Sub.cons rfl rfl (Sub.cons rfl rfl Sub.nil))))
      · rfl
      ·
        intro k ds hinv
        obtain ⟨hkc, hdl⟩ := hinv
        refine AW.seq ?_
        refine AW.rseq ?_
        refine AWL.y rfl rfl (B rfl) (Yv.move rfl (E rfl rfl)) ?_
        refine AWL.y rfl rfl (B rfl) (Yv.move rfl (E rfl rfl)) ?_
        refine AWL.y rfl rfl (B rfl) (Yv.lenV rfl so_27 (E rfl rfl)) ?_
        refine AWL.y rfl rfl (B rfl) (Yv.lss rfl (E rfl rfl) (E rfl rfl)) ?_
        refine AWL.nil ?_
        refine AW.cond rfl (fun h1t => ?_) (fun h1f => ?_)
        ·
          try replace h1t := of_decide_eq_true h1t
          refine AW.skip ?_
          refine AW.seq ?_
          refine AW.block ?_
          refine AW.region ?_
          refine AWL.y rfl rfl (B rfl) (Yv.move rfl (E rfl rfl)) ?_
          refine AWL.y rfl rfl (B rfl) (Yv.move rfl (E rfl rfl)) ?_
          refine AWL.y rfl rfl (B rfl) (Yv.move rfl (E rfl rfl)) ?_
          refine AWL.y rfl rfl (B rfl) (Yv.move rfl (E rfl rfl)) ?_
          refine AWL.y rfl rfl (B rfl) (Yv.indexRow rfl ss_27 (i := 2) rfl (E rfl rfl) (E rfl rfl) (fun hg => ⟨rfl, by omega⟩)) ?_
          refine AWL.y rfl rfl (B rfl) (Yv.loadEp rfl ag_5 (i := 2) rfl (E rfl rfl) (fun hg => u8_get (by omega))) ?_
          refine AWL.y rfl rfl (B rfl) (Yv.compl rfl (E rfl rfl)) ?_
          refine AWL.y rfl rfl (B rfl) (Yv.indexRow rfl ss_27 (i := 2) rfl (E rfl rfl) (E rfl rfl) (fun hg => ⟨rfl, by omega⟩)) ?_
          refine AWL.storeEp1 (i := 2) rfl rfl rfl ag_5 rfl (E rfl rfl) (E rfl rfl) rfl rfl (by rw [List.length_map]; omega) ?_
          refine AWL.nil ?_
          refine AW.region ?_
          refine AWL.y rfl rfl (B rfl) (Yv.move rfl (E rfl rfl)) ?_
          refine AWL.y rfl rfl (B rfl) (Yv.addN_i64 rfl (E rfl rfl) (E rfl rfl) (fun hg => by omega)) ?_
          refine AWL.y rfl rfl (B rfl) (Yv.assign rfl (E rfl rfl)) ?_
          refine AWL.nil ?_
          obtain ⟨q, hq⟩ := u8_not' (ds.getD k 0)
          refine ⟨k + 1, ds.set k q, ⟨by omega, by simpa using hdl⟩, by omega, Sub.cons rfl rfl (Sub.cons rfl rfl (Sub.cons rfl rfl (Sub.cons rfl (by simp) Sub.nil))), ?_⟩
          rw [List.map_set, ← hq, Nat.mul_one]
          rfl
        ·
          try replace h1f := of_decide_eq_false h1f
          refine AW.exit ?_
          refine AW.region ?_
          refine AWL.y rfl rfl (B rfl) (Yv.fieldBox rfl fo_25_1 (E rfl rfl)) ?_
          refine AWL.y rfl rfl (B rfl) (Yv.loadBox rfl ag_23 (i := 0) rfl (E rfl rfl) rfl) ?_
          refine AWL.y rfl rfl (B rfl) (Yv.move rfl (E rfl rfl)) ?_
          refine AWL.y rfl rfl (B rfl) (Yv.buildS rfl sh_42 (evpC (E rfl rfl) evp0) (fun _ => rfl)) ?_
          refine AWL.y rfl rfl (B rfl) (Yv.indexRow rfl ss_23 (i := 1) rfl (E rfl rfl) (E rfl rfl) (fun hg => ⟨rfl, by omega⟩)) ?_
          refine AWL.storeEp (i := 1) (m := 4) rfl rfl rfl ag_42 rfl (E rfl rfl) (E rfl rfl) rfl rfl (by decide) (by rw [List.length_append, List.length_append, hpre, fs_len]; omega) ?_
          refine AWL.nil ?_
          refine AW.dropAt 2 ?_
          refine AW.region ?_
          refine AWL.y rfl rfl (B rfl) (Yv.move rfl (E rfl rfl)) ?_
          refine AWL.y rfl rfl (B rfl) (Yv.addN_i64 rfl (E rfl rfl) (E rfl rfl) (fun hg => by omega)) ?_
          refine AWL.y rfl rfl (B rfl) (Yv.assign rfl (E rfl rfl)) ?_
          refine AWL.nil ?_
          have hsf := store_fs (new := [.v (.int .u64 77), .v (.int .u64 0), .v (.int .i64 0), .v (.slice none 0 0)]) (rest := (fs.drop (j + 1)).flatMap sCells) (f := (fs.getD j default)) hpre rfl
          refine ⟨j + 1, pre ++ [.v (.int .u64 77), .v (.int .u64 0), .v (.int .i64 0), .v (.slice none 0 0)], ⟨by omega, by rw [List.length_append, hpre]; show _ + 4 = _; omega⟩, by omega, Sub.cons rfl rfl (Sub.cons rfl (by simp) Sub.nil), ?_⟩
          rw [← hsf]
          rfl
    ·
      try replace h0f := of_decide_eq_false h0f
      refine AW.exit ?_
      refine retN .nil ?_
      trivial

end Go.Proofs.Ytckkcncgglfbbaa
