/-
  CONTRACTS of the elf package: what the document loads; the law on loading; walked by program.
-/
import Derived.Test.YtckkcncgglfbbaaWk12
import Derived.Test.YtckkcncgglfbbaaRefLoad
namespace Go.Proofs.Ytckkcncgglfbbaa
open Go Go.RowKit
set_option linter.unusedVariables false
set_option linter.unnecessarySimpa false

set_option maxHeartbeats 1000000 in
theorem refLoad15 (bs : List UInt8) (h2 : bs.length ≤ 1099511627776) :
    ACalls Try.prog 15 [u8s bs] [] (fun t S => t = .tup [imgT ((LoadF bs).getD ⟨0, []⟩), .v (.int .i64 (if (LoadF bs).isSome then 0 else 240))]) := by
  have hml := magic_len
  have n1 := num8 bs 24
  have n2 := num8 bs 32
  have n3 := num2 bs 56
  refine ACalls.intro Try.func15 rfl Try.ntmps15 (Nat.le_of_ble_eq_true rfl) rfl fun X w0 => ?_
  refine AW.rseq ?_
  refine AWL.allocOp rfl rfl (B rfl) rfl zc_25 (fun b2 => ?_)
  refine AWL.y rfl rfl (B rfl) (Yv.assign rfl (E rfl rfl)) ?_
  refine AWL.nil ?_
  refine AW.rseq ?_
  refine AWL.buildSlice1 rfl rfl (B rfl) rfl el_27 rfl (evsC (E rfl rfl) (evsC (E rfl rfl) (evsC (E rfl rfl) (evsC (E rfl rfl) (evsC (E rfl rfl) (evsC (E rfl rfl) (evsC (E rfl rfl) evs0))))))) (Nat.le_of_ble_eq_true rfl) rfl rfl ?_
  refine AWL.y rfl rfl (B rfl) (Yv.assign rfl (E rfl rfl)) ?_
  refine AWL.nil ?_
  refine AW.seq ?_
  refine AW.rseq ?_
  refine AWL.y rfl rfl (B rfl) (Yv.move rfl (E rfl rfl)) ?_
  refine AWL.y rfl rfl (B rfl) (Yv.lenSl rfl so_27 (B rfl) (E rfl rfl) len_u8s) ?_
  refine AWL.y rfl rfl (B rfl) (Yv.lss rfl (E rfl rfl) (E rfl rfl)) ?_
  refine AWL.nil ?_
  refine AW.cond rfl (fun h0t => ?_) (fun h0f => ?_)
  ·
    try replace h0t := of_decide_eq_true h0t
    refine AW.rseq ?_
    refine AWL.y rfl rfl (B rfl) (Yv.buildS rfl sh_25 evp0 (fun _ => rfl)) ?_
    refine AWL.storeBox (i := 0) rfl rfl rfl ag_25 rfl (E rfl rfl) (E rfl rfl) rfl rfl (Nat.le_of_ble_eq_true rfl) ?_
    refine AWL.y rfl rfl (B rfl) (Yv.assign rfl (E rfl rfl)) ?_
    refine AWL.nil ?_
    refine AW.rowNil 42 4 ?_
    refine AW.freezeCell 1 0 1 rfl (B rfl) rfl rfl ?_
    refine AW.ret (retI (.cellA (i := 0) rfl ag_25 rfl rfl rfl (.tmp rfl .nil)) ?_)
    rw [LoadF_no (loadF_hdr (hdr_short h0t))]
    rfl
  ·
    try replace h0f := of_decide_eq_false h0f
    refine AW.skip ?_
    refine AW.seq ?_
    refine AW.rseq ?_
    refine AWL.y rfl rfl (B rfl) (Yv.assign rfl (E rfl rfl)) ?_
    refine AWL.nil ?_
    refine AW.block ?_
    refine AW.loop (fun (j : Nat) => [(0, true, u8s bs), (2, true, .v (.pointer (some ⟨b2, 0, none⟩))), (4, true, u8s magic), (5, true, .v (.int .i64 (j : Int)))]) (fun (j : Nat) => [.box b2 25 [.v (.int .u64 0), .v (.slice none 0 0)]]) (fun (j : Nat) => j ≤ 7 ∧ ∀ i, i < j → ((bs.getD i 0).toNat : Int) = (magic.getD i 0).toNat) (fun (j : Nat) => 7 - j) 0 ?_ ?_ ?_ ?_
    · exact ⟨Nat.zero_le _, fun i hi => by omega⟩
    · exact (Sub.cons rfl rfl (Sub.cons rfl rfl (Sub.cons rfl rfl (Sub.cons rfl rfl Sub.nil))))
    · rfl
    ·
      intro j hinv
      obtain ⟨hj, hmg⟩ := hinv
      refine AW.seq ?_
      refine AW.rseq ?_
      refine AWL.y rfl rfl (B rfl) (Yv.move rfl (E rfl rfl)) ?_
      refine AWL.y rfl rfl (B rfl) (Yv.move rfl (E rfl rfl)) ?_
      refine AWL.y rfl rfl (B rfl) (Yv.lenSl rfl so_27 (B rfl) (E rfl rfl) len_u8s) ?_
      refine AWL.y rfl rfl (B rfl) (Yv.lss rfl (E rfl rfl) (E rfl rfl)) ?_
      refine AWL.nil ?_
      refine AW.cond rfl (fun h1t => ?_) (fun h1f => ?_)
      ·
        try replace h1t := of_decide_eq_true h1t
        refine AW.skip ?_
        refine AW.seq ?_
        refine AW.block ?_
        refine AW.rseqQ rfl (by kernel_rfl) ?_
        refine AWQ.y rfl rfl (B rfl) (Yv.move rfl (E rfl rfl)) ?_
        refine AWQ.y rfl rfl (B rfl) (Yv.move rfl (E rfl rfl)) ?_
        refine AWQ.y rfl rfl (B rfl) (Yv.indexSl rfl ss_27 (B rfl) (E rfl rfl) (E rfl rfl) (fun hg => ⟨rfl, (by first | omega | (simp only [len_u8s, len_segs]; omega))⟩)) ?_
        refine AWQ.y rfl rfl (B rfl) (Yv.loadRp rfl ag_5 (E rfl rfl) (fun hg => u8_get (by omega))) ?_
        refine AWQ.y rfl rfl (B rfl) (Yv.move rfl (E rfl rfl)) ?_
        refine AWQ.y rfl rfl (B rfl) (Yv.move rfl (E rfl rfl)) ?_
        refine AWQ.y rfl rfl (B rfl) (Yv.indexSl rfl ss_27 (B rfl) (E rfl rfl) (E rfl rfl) (fun hg => ⟨rfl, (by first | omega | (simp only [len_u8s, len_segs]; omega))⟩)) ?_
        refine AWQ.y rfl rfl (B rfl) (Yv.loadRp rfl ag_5 (E rfl rfl) (fun hg => u8_get (by omega))) ?_
        refine AWQ.y rfl rfl (B rfl) (Yv.neq rfl (E rfl rfl) (E rfl rfl)) ?_
        refine AWQ.nil ?_
        refine AW.cond rfl (fun h2t => ?_) (fun h2f => ?_)
        ·
          try replace h2t := of_decide_eq_true h2t
          simp only [Bool.or_eq_true, Bool.and_eq_true, Bool.or_eq_false_iff, Bool.and_eq_false_iff, Bool.not_eq_true', Bool.not_eq_false', decide_eq_true_eq, decide_eq_false_iff_not, Decidable.not_not] at h2t
          refine AW.rseq ?_
          refine AWL.y rfl rfl (B rfl) (Yv.buildS rfl sh_25 evp0 (fun _ => rfl)) ?_
          refine AWL.storeBox (i := 0) rfl rfl rfl ag_25 rfl (E rfl rfl) (E rfl rfl) rfl rfl (Nat.le_of_ble_eq_true rfl) ?_
          refine AWL.y rfl rfl (B rfl) (Yv.assign rfl (E rfl rfl)) ?_
          refine AWL.nil ?_
          refine AW.rowNil 42 4 ?_
          refine AW.freezeCell 1 0 1 rfl (B rfl) rfl rfl ?_
          refine AW.ret (retI (.cellA (i := 0) rfl ag_25 rfl rfl rfl (.tmp rfl .nil)) ?_)
          rw [LoadF_no (loadF_hdr (magic_ne (by omega) h2t))]
          rfl
        ·
          try replace h2f := of_decide_eq_false h2f
          simp only [Bool.or_eq_true, Bool.and_eq_true, Bool.or_eq_false_iff, Bool.and_eq_false_iff, Bool.not_eq_true', Bool.not_eq_false', decide_eq_true_eq, decide_eq_false_iff_not, Decidable.not_not] at h2f
          refine AW.skip ?_
          refine AW.region ?_
          refine AWL.y rfl rfl (B rfl) (Yv.move rfl (E rfl rfl)) ?_
          refine AWL.y rfl rfl (B rfl) (Yv.addN_i64 rfl (E rfl rfl) (E rfl rfl) (fun hg => by omega)) ?_
          refine AWL.y rfl rfl (B rfl) (Yv.assign rfl (E rfl rfl)) ?_
          refine AWL.nil ?_
          refine ⟨j + 1, ⟨by omega, fun i hi => ?_⟩, by omega, Sub.cons rfl rfl (Sub.cons rfl rfl (Sub.cons rfl rfl (Sub.cons rfl (by simp) Sub.nil))), rfl⟩
          rcases Nat.lt_or_ge i j with q | q
          · exact hmg i q
          · rw [show i = j by omega]; exact h2f
      ·
        try replace h1f := of_decide_eq_false h1f
        obtain rfl : j = 7 := by omega
        have htk := magic_eq (by omega) hmg
        refine AW.exit ?_
        refine AW.rseq ?_
        refine AWL.y rfl rfl (B rfl) (Yv.move rfl (E rfl rfl)) ?_
        refine AWL.callP rfl rfl (B rfl) rfl ce_27 (E rfl rfl) (evsC (E rfl rfl) (evsC (E rfl rfl) (evsC (E rfl rfl) evs0))) (take27 bs 16 2 (by omega) (by omega) (by omega) (by omega)) (fun t S h => h) ?_
        refine AWL.y rfl rfl (B rfl) (Yv.eql rfl (E rfl rfl) (E rfl rfl)) ?_
        refine AWL.y rfl rfl (B rfl) (Yv.move rfl (E rfl rfl)) ?_
        refine AWL.ygT rfl rfl rfl rfl (B rfl) (Yv.move rfl (E rfl rfl)) ?_
        refine AWL.callPgT rfl rfl rfl rfl (B rfl) rfl ce_27 (E rfl rfl) (evsC (Eg rfl rfl id) (evsC (E rfl rfl) (evsC (E rfl rfl) evs0))) (fun hg => take27 bs 18 2 (by omega) (by omega) (by omega) (by omega)) (fun t S h => h) ?_
        refine AWL.ygT rfl rfl rfl rfl (B rfl) (Yv.eql rfl (Eg rfl rfl id) (E rfl rfl)) ?_
        refine AWL.y rfl rfl (B rfl) (Yv.pickAnd rfl (E rfl rfl) (Eg rfl rfl id)) ?_
        refine AWL.y rfl rfl (B rfl) (Yv.move rfl (E rfl rfl)) ?_
        refine AWL.ygT rfl rfl rfl rfl (B rfl) (Yv.move rfl (E rfl rfl)) ?_
        refine AWL.callPgT rfl rfl rfl rfl (B rfl) rfl ce_27 (E rfl rfl) (evsC (Eg rfl rfl id) (evsC (E rfl rfl) (evsC (E rfl rfl) evs0))) (fun hg => take27 bs 20 4 (by omega) (by omega) (by omega) (by omega)) (fun t S h => h) ?_
        refine AWL.ygT rfl rfl rfl rfl (B rfl) (Yv.eql rfl (Eg rfl rfl id) (E rfl rfl)) ?_
        refine AWL.y rfl rfl (B rfl) (Yv.pickAnd rfl (E rfl rfl) (Eg rfl rfl id)) ?_
        refine AWL.y rfl rfl (B rfl) (Yv.move rfl (E rfl rfl)) ?_
        refine AWL.ygT rfl rfl rfl rfl (B rfl) (Yv.move rfl (E rfl rfl)) ?_
        refine AWL.callPgT rfl rfl rfl rfl (B rfl) rfl ce_27 (E rfl rfl) (evsC (Eg rfl rfl id) (evsC (E rfl rfl) (evsC (E rfl rfl) evs0))) (fun hg => take27 bs 52 2 (by omega) (by omega) (by omega) (by omega)) (fun t S h => h) ?_
        refine AWL.ygT rfl rfl rfl rfl (B rfl) (Yv.eql rfl (Eg rfl rfl id) (E rfl rfl)) ?_
        refine AWL.y rfl rfl (B rfl) (Yv.pickAnd rfl (E rfl rfl) (Eg rfl rfl id)) ?_
        refine AWL.y rfl rfl (B rfl) (Yv.move rfl (E rfl rfl)) ?_
        refine AWL.ygT rfl rfl rfl rfl (B rfl) (Yv.move rfl (E rfl rfl)) ?_
        refine AWL.callPgT rfl rfl rfl rfl (B rfl) rfl ce_27 (E rfl rfl) (evsC (Eg rfl rfl id) (evsC (E rfl rfl) (evsC (E rfl rfl) evs0))) (fun hg => take27 bs 54 2 (by omega) (by omega) (by omega) (by omega)) (fun t S h => h) ?_
        refine AWL.ygT rfl rfl rfl rfl (B rfl) (Yv.eql rfl (Eg rfl rfl id) (E rfl rfl)) ?_
        refine AWL.y rfl rfl (B rfl) (Yv.pickAnd rfl (E rfl rfl) (Eg rfl rfl id)) ?_
        refine AWL.y rfl rfl (B rfl) (Yv.assign rfl (E rfl rfl)) ?_
        refine AWL.nil ?_
        refine AW.retype (k := 6) (t' := .v (.bool (kindsB bs))) rfl (fun w L u h => h) ?_
        refine AW.rseq ?_
        refine AWL.y rfl rfl (B rfl) (Yv.move rfl (E rfl rfl)) ?_
        refine AWL.callP rfl rfl (B rfl) rfl ce_27 (E rfl rfl) (evsC (E rfl rfl) (evsC (E rfl rfl) (evsC (E rfl rfl) evs0))) (take27 bs 32 8 (by omega) (by omega) (by omega) (by omega)) (fun t S h => h) ?_
        refine AWL.y rfl rfl (B rfl) (Yv.assign rfl (E rfl rfl)) ?_
        refine AWL.nil ?_
        refine AW.rseq ?_
        refine AWL.y rfl rfl (B rfl) (Yv.move rfl (E rfl rfl)) ?_
        refine AWL.callP rfl rfl (B rfl) rfl ce_27 (E rfl rfl) (evsC (E rfl rfl) (evsC (E rfl rfl) (evsC (E rfl rfl) evs0))) (take27 bs 56 2 (by omega) (by omega) (by omega) (by omega)) (fun t S h => h) ?_
        refine AWL.y rfl rfl (B rfl) (Yv.assign rfl (E rfl rfl)) ?_
        refine AWL.nil ?_
        refine AW.seq ?_
        refine AW.rseq ?_
        refine AWL.y rfl rfl (B rfl) (Yv.move rfl (E rfl rfl)) ?_
        refine AWL.y rfl rfl (B rfl) (Yv.not rfl (E rfl rfl)) ?_
        refine AWL.y rfl rfl (B rfl) (Yv.move rfl (E rfl rfl)) ?_
        refine AWL.ygF rfl rfl rfl rfl (B rfl) (Yv.move rfl (E rfl rfl)) ?_
        refine AWL.ygF rfl rfl rfl rfl (B rfl) (Yv.lss rfl (Eg rfl rfl id) (E rfl rfl)) ?_
        refine AWL.y rfl rfl (B rfl) (Yv.pickOr (t := .const (.bool true)) rfl (E rfl rfl) (Eg rfl rfl id)) ?_
        refine AWL.y rfl rfl (B rfl) (Yv.move rfl (E rfl rfl)) ?_
        refine AWL.ygF rfl rfl rfl rfl (B rfl) (Yv.move rfl (E rfl rfl)) ?_
        refine AWL.ygF rfl rfl rfl rfl (B rfl) (Yv.gtr rfl (Eg rfl rfl id) (E rfl rfl)) ?_
        refine AWL.y rfl rfl (B rfl) (Yv.pickOr (t := .const (.bool true)) rfl (E rfl rfl) (Eg rfl rfl id)) ?_
        refine AWL.y rfl rfl (B rfl) (Yv.move rfl (E rfl rfl)) ?_
        refine AWL.ygF rfl rfl rfl rfl (B rfl) (Yv.move rfl (E rfl rfl)) ?_
        refine AWL.ygF rfl rfl rfl rfl (B rfl) (Yv.lenSl rfl so_27 (B rfl) (Eg rfl rfl id) len_u8s) ?_
        refine AWL.ygF rfl rfl rfl rfl (B rfl) (Yv.move rfl (E rfl rfl)) ?_
        refine AWL.ygF rfl rfl rfl rfl (B rfl) (Yv.move rfl (E rfl rfl)) ?_
        refine AWL.ygF rfl rfl rfl rfl (B rfl) (Yv.mulN_u64 rfl (E rfl rfl) (Eg rfl rfl id) (fun hg => by first | omega | (simp only [Bool.and_eq_true, Bool.or_eq_false_iff, Bool.not_eq_true', Bool.not_eq_false', decide_eq_true_eq, decide_eq_false_iff_not] at hg; omega))) ?_
        refine AWL.callPgF rfl rfl rfl rfl (B rfl) rfl ce_28 (E rfl rfl) (evsC (Eg rfl rfl id) (evsC (Eg rfl rfl id) (evsC (Eg rfl rfl id) evs0))) (fun hg => within28 bs.length (num bs 32 8) (56 * num bs 56 2) (by omega) (by omega) (by omega) (by omega) (by omega)) (fun t S h => h) ?_
        refine AWL.ygF rfl rfl rfl rfl (B rfl) (Yv.not rfl (Eg rfl rfl id)) ?_
        refine AWL.y rfl rfl (B rfl) (Yv.pickOr (t := .const (.bool true)) rfl (E rfl rfl) (Eg rfl rfl id)) ?_
        refine AWL.nil ?_
        refine AW.cond rfl (fun h3t => ?_) (fun h3f => ?_)
        ·
          try replace h3t := of_decide_eq_true h3t
          simp only [Bool.or_eq_true, Bool.and_eq_true, Bool.or_eq_false_iff, Bool.and_eq_false_iff, Bool.not_eq_true', Bool.not_eq_false', decide_eq_true_eq, decide_eq_false_iff_not, Decidable.not_not] at h3t
          refine AW.rseq ?_
          refine AWL.y rfl rfl (B rfl) (Yv.buildS rfl sh_25 evp0 (fun _ => rfl)) ?_
          refine AWL.storeBox (i := 0) rfl rfl rfl ag_25 rfl (E rfl rfl) (E rfl rfl) rfl rfl (Nat.le_of_ble_eq_true rfl) ?_
          refine AWL.y rfl rfl (B rfl) (Yv.assign rfl (E rfl rfl)) ?_
          refine AWL.nil ?_
          refine AW.rowNil 42 4 ?_
          refine AW.freezeCell 1 0 1 rfl (B rfl) rfl rfl ?_
          refine AW.ret (retI (.cellA (i := 0) rfl ag_25 rfl rfl rfl (.tmp rfl .nil)) ?_)
          have hc : loadF bs = none := by
            rcases h3t with ((h | h) | h) | h
            · exact loadF_hdr (hdr_kinds h)
            · exact loadF_tab (table_no (.inl (.inl h)))
            · exact loadF_tab (table_no (.inl (.inr h)))
            · exact loadF_tab (table_no (.inr h))
          rw [LoadF_no (hc)]
          rfl
        ·
          try replace h3f := of_decide_eq_false h3f
          simp only [Bool.or_eq_true, Bool.and_eq_true, Bool.or_eq_false_iff, Bool.and_eq_false_iff, Bool.not_eq_true', Bool.not_eq_false', decide_eq_true_eq, decide_eq_false_iff_not, Decidable.not_not] at h3f
          obtain ⟨⟨⟨hkk, g1⟩, g2⟩, g3⟩ := h3f
          have hh := hdr_mk (by omega) htk hkk
          have ht := table_mk ⟨⟨g1, g2⟩, g3⟩
          refine AW.skip ?_
          refine AW.rseq ?_
          refine AWL.y rfl rfl (B rfl) (Yv.move rfl (E rfl rfl)) ?_
          refine AWL.callP rfl rfl (B rfl) rfl ce_27 (E rfl rfl) (evsC (E rfl rfl) (evsC (E rfl rfl) (evsC (E rfl rfl) evs0))) (take27 bs 24 8 (by omega) (by omega) (by omega) (by omega)) (fun t S h => h) ?_
          refine AWL.y rfl rfl (B rfl) (Yv.buildS rfl sh_25 (evpC (E rfl rfl) evp0) (fun _ => rfl)) ?_
          refine AWL.allocOp rfl rfl (B rfl) rfl zc_25 (fun b9 => ?_)
          refine AWL.storeBox (i := 1) rfl rfl rfl ag_25 rfl (E rfl rfl) (E rfl rfl) rfl rfl (Nat.le_of_ble_eq_true rfl) ?_
          refine AWL.nil ?_
          refine AW.seq ?_
          refine AW.rseq ?_
          refine AWL.y rfl rfl (B rfl) (Yv.assign rfl (E rfl rfl)) ?_
          refine AWL.nil ?_
          refine AW.rowNil 42 4 ?_
          refine AW.block ?_
          refine AW.loop4 (fun (j : Nat) (l : List Seg) (A : Option Addr) (c : Nat) => [(0, true, u8s bs), (2, true, .v (.pointer (some ⟨b2, 0, none⟩))), (7, true, .v (.int .u64 (num bs 32 8))), (8, true, .v (.int .u64 (num bs 56 2))), (9, true, .v (.pointer (some ⟨b9, 0, none⟩))), (10, true, .v (.int .u64 (j : Int)))]) (fun (j : Nat) (l : List Seg) (A : Option Addr) (c : Nat) => [.box b2 25 [.v (.int .u64 0), .v (.slice none 0 0)], .box b9 25 [.v (.int .u64 (num bs 24 8)), .v (.slice A l.length c)], .row A l.length c 42 4 (l.flatMap segCells)]) (fun (j : Nat) (l : List Seg) (A : Option Addr) (c : Nat) => j ≤ (num bs 56 2).toNat ∧ l.length ≤ j ∧ (loadRows bs ((num bs 56 2).toNat - j) (num bs 32 8 + 56 * (j : Int))).map (l ++ ·) = loadRows bs (num bs 56 2).toNat (num bs 32 8)) (fun (j : Nat) (l : List Seg) (A : Option Addr) (c : Nat) => (num bs 56 2).toNat - j) 0 ([]) none 0 ?_ ?_ ?_ ?_
          · exact ⟨Nat.zero_le _, Nat.le_refl _, by simp⟩
          · exact (Sub.cons rfl rfl (Sub.cons rfl rfl (Sub.cons rfl rfl (Sub.cons rfl rfl (Sub.cons rfl rfl (Sub.cons rfl rfl Sub.nil))))))
          · rfl
          ·
            intro j l A c hinv
            obtain ⟨hj, hl, hrows⟩ := hinv
            refine AW.seq ?_
            refine AW.rseq ?_
            refine AWL.y rfl rfl (B rfl) (Yv.move rfl (E rfl rfl)) ?_
            refine AWL.y rfl rfl (B rfl) (Yv.move rfl (E rfl rfl)) ?_
            refine AWL.y rfl rfl (B rfl) (Yv.lss rfl (E rfl rfl) (E rfl rfl)) ?_
            refine AWL.nil ?_
            refine AW.cond rfl (fun h4t => ?_) (fun h4f => ?_)
            ·
              try replace h4t := of_decide_eq_true h4t
              have m8 := num8 bs ((num bs 32 8 + 56 * (j : Int)) + 8)
              have m16 := num8 bs ((num bs 32 8 + 56 * (j : Int)) + 16)
              have m32 := num8 bs ((num bs 32 8 + 56 * (j : Int)) + 32)
              have m40 := num8 bs ((num bs 32 8 + 56 * (j : Int)) + 40)
              have m4 := num4 bs ((num bs 32 8 + 56 * (j : Int)) + 4)
              refine AW.skip ?_
              refine AW.seq ?_
              refine AW.block ?_
              refine AW.rseq ?_
              refine AWL.y rfl rfl (B rfl) (Yv.move rfl (E rfl rfl)) ?_
              refine AWL.y rfl rfl (B rfl) (Yv.move rfl (E rfl rfl)) ?_
              refine AWL.y rfl rfl (B rfl) (Yv.mulN_u64 rfl (E rfl rfl) (E rfl rfl) (fun hg => by omega)) ?_
              refine AWL.y rfl rfl (B rfl) (Yv.addN_u64 rfl (E rfl rfl) (E rfl rfl) (fun hg => by omega)) ?_
              refine AWL.y rfl rfl (B rfl) (Yv.assign rfl (E rfl rfl)) ?_
              refine AWL.nil ?_
              refine AW.rseq ?_
              refine AWL.y rfl rfl (B rfl) (Yv.move rfl (E rfl rfl)) ?_
              refine AWL.y rfl rfl (B rfl) (Yv.move rfl (E rfl rfl)) ?_
              refine AWL.callP rfl rfl (B rfl) rfl ce_27 (E rfl rfl) (evsC (E rfl rfl) (evsC (E rfl rfl) (evsC (E rfl rfl) evs0))) (take27 bs (num bs 32 8 + 56 * (j : Int)) 4 (by omega) (by omega) (by omega) (by omega)) (fun t S h => h) ?_
              refine AWL.y rfl rfl (B rfl) (Yv.assign rfl (E rfl rfl)) ?_
              refine AWL.nil ?_
              refine AW.seq ?_
              refine AW.rseq ?_
              refine AWL.y rfl rfl (B rfl) (Yv.move rfl (E rfl rfl)) ?_
              refine AWL.y rfl rfl (B rfl) (Yv.eql rfl (E rfl rfl) (E rfl rfl)) ?_
              refine AWL.y rfl rfl (B rfl) (Yv.move rfl (E rfl rfl)) ?_
              refine AWL.ygF rfl rfl rfl rfl (B rfl) (Yv.move rfl (E rfl rfl)) ?_
              refine AWL.ygF rfl rfl rfl rfl (B rfl) (Yv.eql rfl (Eg rfl rfl id) (E rfl rfl)) ?_
              refine AWL.y rfl rfl (B rfl) (Yv.pickOr (t := .const (.bool true)) rfl (E rfl rfl) (Eg rfl rfl id)) ?_
              refine AWL.nil ?_
              refine AW.cond rfl (fun h5t => ?_) (fun h5f => ?_)
              ·
                try replace h5t := of_decide_eq_true h5t
                simp only [Bool.or_eq_true, Bool.and_eq_true, Bool.or_eq_false_iff, Bool.and_eq_false_iff, Bool.not_eq_true', Bool.not_eq_false', decide_eq_true_eq, decide_eq_false_iff_not, Decidable.not_not] at h5t
                refine AW.exit ?_
                try refine AW.dropAt 3 ?_
                refine AW.region ?_
                refine AWL.y rfl rfl (B rfl) (Yv.move rfl (E rfl rfl)) ?_
                refine AWL.y rfl rfl (B rfl) (Yv.addN_u64 rfl (E rfl rfl) (E rfl rfl) (fun hg => by omega)) ?_
                refine AWL.y rfl rfl (B rfl) (Yv.assign rfl (E rfl rfl)) ?_
                refine AWL.nil ?_
                rw [rows_skip (by omega) (by omega)] at hrows
                refine ⟨j + 1, l, A, c, ⟨by omega, by omega, ?_⟩, by omega, Sub.cons rfl rfl (Sub.cons rfl rfl (Sub.cons rfl rfl (Sub.cons rfl rfl (Sub.cons rfl rfl (Sub.cons rfl (by simp) Sub.nil))))), rfl⟩
                rw [← hrows]; congr 2 <;> omega
              ·
                try replace h5f := of_decide_eq_false h5f
                simp only [Bool.or_eq_true, Bool.and_eq_true, Bool.or_eq_false_iff, Bool.and_eq_false_iff, Bool.not_eq_true', Bool.not_eq_false', decide_eq_true_eq, decide_eq_false_iff_not, Decidable.not_not] at h5f
                refine AW.skip ?_
                refine AW.rseq ?_
                refine AWL.y rfl rfl (B rfl) (Yv.move rfl (E rfl rfl)) ?_
                refine AWL.y rfl rfl (B rfl) (Yv.move rfl (E rfl rfl)) ?_
                refine AWL.y rfl rfl (B rfl) (Yv.addN_u64 rfl (E rfl rfl) (E rfl rfl) (fun hg => by omega)) ?_
                refine AWL.callP rfl rfl (B rfl) rfl ce_27 (E rfl rfl) (evsC (E rfl rfl) (evsC (E rfl rfl) (evsC (E rfl rfl) evs0))) (take27 bs ((num bs 32 8 + 56 * (j : Int)) + 8) 8 (by omega) (by omega) (by omega) (by omega)) (fun t S h => h) ?_
                refine AWL.y rfl rfl (B rfl) (Yv.assign rfl (E rfl rfl)) ?_
                refine AWL.nil ?_
                refine AW.rseq ?_
                refine AWL.y rfl rfl (B rfl) (Yv.move rfl (E rfl rfl)) ?_
                refine AWL.y rfl rfl (B rfl) (Yv.move rfl (E rfl rfl)) ?_
                refine AWL.y rfl rfl (B rfl) (Yv.addN_u64 rfl (E rfl rfl) (E rfl rfl) (fun hg => by omega)) ?_
                refine AWL.callP rfl rfl (B rfl) rfl ce_27 (E rfl rfl) (evsC (E rfl rfl) (evsC (E rfl rfl) (evsC (E rfl rfl) evs0))) (take27 bs ((num bs 32 8 + 56 * (j : Int)) + 16) 8 (by omega) (by omega) (by omega) (by omega)) (fun t S h => h) ?_
                refine AWL.y rfl rfl (B rfl) (Yv.assign rfl (E rfl rfl)) ?_
                refine AWL.nil ?_
                refine AW.rseq ?_
                refine AWL.y rfl rfl (B rfl) (Yv.move rfl (E rfl rfl)) ?_
                refine AWL.y rfl rfl (B rfl) (Yv.move rfl (E rfl rfl)) ?_
                refine AWL.y rfl rfl (B rfl) (Yv.addN_u64 rfl (E rfl rfl) (E rfl rfl) (fun hg => by omega)) ?_
                refine AWL.callP rfl rfl (B rfl) rfl ce_27 (E rfl rfl) (evsC (E rfl rfl) (evsC (E rfl rfl) (evsC (E rfl rfl) evs0))) (take27 bs ((num bs 32 8 + 56 * (j : Int)) + 32) 8 (by omega) (by omega) (by omega) (by omega)) (fun t S h => h) ?_
                refine AWL.y rfl rfl (B rfl) (Yv.assign rfl (E rfl rfl)) ?_
                refine AWL.nil ?_
                refine AW.seq ?_
                refine AW.rseq ?_
                refine AWL.y rfl rfl (B rfl) (Yv.move rfl (E rfl rfl)) ?_
                refine AWL.y rfl rfl (B rfl) (Yv.neq rfl (E rfl rfl) (E rfl rfl)) ?_
                refine AWL.y rfl rfl (B rfl) (Yv.move rfl (E rfl rfl)) ?_
                refine AWL.ygF rfl rfl rfl rfl (B rfl) (Yv.move rfl (E rfl rfl)) ?_
                refine AWL.ygF rfl rfl rfl rfl (B rfl) (Yv.lenSl rfl so_27 (B rfl) (Eg rfl rfl id) len_u8s) ?_
                refine AWL.ygF rfl rfl rfl rfl (B rfl) (Yv.move rfl (E rfl rfl)) ?_
                refine AWL.ygF rfl rfl rfl rfl (B rfl) (Yv.move rfl (E rfl rfl)) ?_
                refine AWL.callPgF rfl rfl rfl rfl (B rfl) rfl ce_28 (E rfl rfl) (evsC (Eg rfl rfl id) (evsC (Eg rfl rfl id) (evsC (Eg rfl rfl id) evs0))) (fun hg => within28 bs.length (num bs ((num bs 32 8 + 56 * (j : Int)) + 8) 8) (num bs ((num bs 32 8 + 56 * (j : Int)) + 32) 8) (by omega) (by omega) (by omega) (by omega) (by omega)) (fun t S h => h) ?_
                refine AWL.ygF rfl rfl rfl rfl (B rfl) (Yv.not rfl (Eg rfl rfl id)) ?_
                refine AWL.y rfl rfl (B rfl) (Yv.pickOr (t := .const (.bool true)) rfl (E rfl rfl) (Eg rfl rfl id)) ?_
                refine AWL.y rfl rfl (B rfl) (Yv.move rfl (E rfl rfl)) ?_
                refine AWL.ygF rfl rfl rfl rfl (B rfl) (Yv.move rfl (E rfl rfl)) ?_
                refine AWL.ygF rfl rfl rfl rfl (B rfl) (Yv.remN rfl (Eg rfl rfl id) (E rfl rfl) (fun hg => by first | omega | (simp only [Bool.and_eq_true, Bool.or_eq_false_iff, Bool.not_eq_true', Bool.not_eq_false', decide_eq_true_eq, decide_eq_false_iff_not] at hg; omega))) ?_
                refine AWL.ygF rfl rfl rfl rfl (B rfl) (Yv.move rfl (E rfl rfl)) ?_
                refine AWL.ygF rfl rfl rfl rfl (B rfl) (Yv.remN rfl (Eg rfl rfl id) (E rfl rfl) (fun hg => by first | omega | (simp only [Bool.and_eq_true, Bool.or_eq_false_iff, Bool.not_eq_true', Bool.not_eq_false', decide_eq_true_eq, decide_eq_false_iff_not] at hg; omega))) ?_
                refine AWL.ygF rfl rfl rfl rfl (B rfl) (Yv.neq rfl (Eg rfl rfl id) (Eg rfl rfl id)) ?_
                refine AWL.y rfl rfl (B rfl) (Yv.pickOr (t := .const (.bool true)) rfl (E rfl rfl) (Eg rfl rfl id)) ?_
                refine AWL.nil ?_
                refine AW.cond rfl (fun h6t => ?_) (fun h6f => ?_)
                ·
                  try replace h6t := of_decide_eq_true h6t
                  simp only [Bool.or_eq_true, Bool.and_eq_true, Bool.or_eq_false_iff, Bool.and_eq_false_iff, Bool.not_eq_true', Bool.not_eq_false', decide_eq_true_eq, decide_eq_false_iff_not, Decidable.not_not] at h6t
                  refine AW.rseq ?_
                  refine AWL.y rfl rfl (B rfl) (Yv.buildS rfl sh_25 evp0 (fun _ => rfl)) ?_
                  refine AWL.storeBox (i := 0) rfl rfl rfl ag_25 rfl (E rfl rfl) (E rfl rfl) rfl rfl (Nat.le_of_ble_eq_true rfl) ?_
                  refine AWL.y rfl rfl (B rfl) (Yv.assign rfl (E rfl rfl)) ?_
                  refine AWL.nil ?_
                  refine AW.rowNil 42 4 ?_
                  refine AW.freezeCell 3 0 1 rfl (B rfl) rfl rfl ?_
                  refine AW.ret (retI (.cellA (i := 0) rfl ag_25 rfl rfl rfl (.tmp rfl .nil)) ?_)
                  have hc : loadF bs = none := by
                    rw [loadF_rows hh ht, ← hrows, rows_bad (by omega) h5f.1 h5f.2 (fun hk1 => by
                      rw [← Bool.not_eq_true]
                      simp only [partOk, Bool.and_eq_true, decide_eq_true_eq]
                      omega)]
                    rfl
                  rw [LoadF_no (hc)]
                  rfl
                ·
                  try replace h6f := of_decide_eq_false h6f
                  simp only [Bool.or_eq_true, Bool.and_eq_true, Bool.or_eq_false_iff, Bool.and_eq_false_iff, Bool.not_eq_true', Bool.not_eq_false', decide_eq_true_eq, decide_eq_false_iff_not, Decidable.not_not] at h6f
                  obtain ⟨⟨hk1, w1, w2⟩, w3⟩ := h6f
                  have hpk : partOk bs (num bs 32 8 + 56 * (j : Int)) = true := by
                    simp only [partOk, Bool.and_eq_true, decide_eq_true_eq]
                    exact ⟨⟨w1, w2⟩, w3⟩
                  have hdl : ((bs.drop (num bs ((num bs 32 8 + 56 * (j : Int)) + 8) 8).toNat).take ((num bs ((num bs 32 8 + 56 * (j : Int)) + 8) 8 + num bs ((num bs 32 8 + 56 * (j : Int)) + 32) 8).toNat - (num bs ((num bs 32 8 + 56 * (j : Int)) + 8) 8).toNat)).length ≤ bs.length := by rw [List.length_take, List.length_drop]; omega
                  refine AW.skip ?_
                  refine AW.rseq ?_
                  refine AWL.y rfl rfl (B rfl) (Yv.move rfl (E rfl rfl)) ?_
                  refine AWL.y rfl rfl (B rfl) (Yv.move rfl (E rfl rfl)) ?_
                  refine AWL.y rfl rfl (B rfl) (Yv.move rfl (E rfl rfl)) ?_
                  refine AWL.y rfl rfl (B rfl) (Yv.addN_u64 rfl (E rfl rfl) (E rfl rfl) (fun hg => by omega)) ?_
                  refine AWL.callP rfl rfl (B rfl) rfl ce_27 (E rfl rfl) (evsC (E rfl rfl) (evsC (E rfl rfl) (evsC (E rfl rfl) evs0))) (take27 bs ((num bs 32 8 + 56 * (j : Int)) + 40) 8 (by omega) (by omega) (by omega) (by omega)) (fun t S h => h) ?_
                  refine AWL.y rfl rfl (B rfl) (Yv.move rfl (E rfl rfl)) ?_
                  refine AWL.y rfl rfl (B rfl) (Yv.move rfl (E rfl rfl)) ?_
                  refine AWL.y rfl rfl (B rfl) (Yv.addN_u64 rfl (E rfl rfl) (E rfl rfl) (fun hg => by omega)) ?_
                  refine AWL.callP rfl rfl (B rfl) rfl ce_27 (E rfl rfl) (evsC (E rfl rfl) (evsC (E rfl rfl) (evsC (E rfl rfl) evs0))) (take27 bs ((num bs 32 8 + 56 * (j : Int)) + 4) 4 (by omega) (by omega) (by omega) (by omega)) (fun t S h => h) ?_
                  refine AWL.y rfl rfl (B rfl) (Yv.remN rfl (E rfl rfl) (E rfl rfl) (fun hg => by omega)) ?_
                  refine AWL.y rfl rfl (B rfl) (Yv.convN_i64 rfl Try.underlying22 kd_3 (E rfl rfl) (fun hg => by omega)) ?_
                  refine AWL.y rfl rfl (B rfl) (Yv.buildS rfl sh_42 (evpC (E rfl rfl) (evpC (E rfl rfl) (evpC (E rfl rfl) evp0))) (fun _ => rfl)) ?_
                  refine AWL.allocOp rfl rfl (B rfl) rfl zc_42 (fun b16 => ?_)
                  refine AWL.storeBox (i := 3) rfl rfl rfl ag_42 rfl (E rfl rfl) (E rfl rfl) rfl rfl (Nat.le_of_ble_eq_true rfl) ?_
                  refine AWL.nil ?_
                  refine AW.rowNil 5 1 ?_
                  refine AW.mid (α := Option Addr × Nat) (fun q => [(0, true, u8s bs), (2, true, .v (.pointer (some ⟨b2, 0, none⟩))), (7, true, .v (.int .u64 (num bs 32 8))), (8, true, .v (.int .u64 (num bs 56 2))), (9, true, .v (.pointer (some ⟨b9, 0, none⟩))), (10, true, .v (.int .u64 (j : Int))), (16, true, .v (.pointer (some ⟨b16, 0, none⟩)))]) (fun q => [.box b2 25 [.v (.int .u64 0), .v (.slice none 0 0)], .box b9 25 [.v (.int .u64 (num bs 24 8)), .v (.slice A l.length c)], .row A l.length c 42 4 (l.flatMap segCells)] ++ [.box b16 42 [.v (.int .u64 (num bs ((num bs 32 8 + 56 * (j : Int)) + 16) 8)), .v (.int .u64 (num bs ((num bs 32 8 + 56 * (j : Int)) + 40) 8)), .v (.int .i64 (num bs ((num bs 32 8 + 56 * (j : Int)) + 4) 4 % 8)), .v (.slice q.1 (0 + ((bs.drop (num bs ((num bs 32 8 + 56 * (j : Int)) + 8) 8).toNat).take ((num bs ((num bs 32 8 + 56 * (j : Int)) + 8) 8 + num bs ((num bs 32 8 + 56 * (j : Int)) + 32) 8).toNat - (num bs ((num bs 32 8 + 56 * (j : Int)) + 8) 8).toNat)).length) q.2)], .row q.1 (0 + ((bs.drop (num bs ((num bs 32 8 + 56 * (j : Int)) + 8) 8).toNat).take ((num bs ((num bs 32 8 + 56 * (j : Int)) + 8) 8 + num bs ((num bs 32 8 + 56 * (j : Int)) + 32) 8).toNat - (num bs ((num bs 32 8 + 56 * (j : Int)) + 8) 8).toNat)).length) q.2 5 1 (((bs.drop (num bs ((num bs 32 8 + 56 * (j : Int)) + 8) 8).toNat).take ((num bs ((num bs 32 8 + 56 * (j : Int)) + 8) 8 + num bs ((num bs 32 8 + 56 * (j : Int)) + 32) 8).toNat - (num bs ((num bs 32 8 + 56 * (j : Int)) + 8) 8).toNat)).map u8)]) (fun _ => True) ?_ ?_
                  ·
                    refine AW.regionP rfl ?_
                    refine AWP.take (i := 0) rfl (by kernel_rfl) (by kernel_rfl) (by kernel_rfl) rfl rfl (B rfl) (freeField rfl fo_42_3 (E rfl rfl)) ?_
                    refine AWP.take (i := 2) rfl (by kernel_rfl) (by kernel_rfl) (by kernel_rfl) rfl rfl (B rfl) (freeMove rfl (E rfl rfl)) ?_
                    refine AWP.take (i := 3) rfl (by kernel_rfl) (by kernel_rfl) (by kernel_rfl) rfl rfl (B rfl) (freeMove rfl (E rfl rfl)) ?_
                    refine AWP.take (i := 4) rfl (by kernel_rfl) (by kernel_rfl) (by kernel_rfl) rfl rfl (B rfl) (freeMove rfl (E rfl rfl)) ?_
                    refine AWP.take (i := 5) rfl (by kernel_rfl) (by kernel_rfl) (by kernel_rfl) rfl rfl (B rfl) (freeMove rfl (E rfl rfl)) ?_
                    refine AWP.two (i := 1) (j := 6) (by kernel_rfl) rfl rfl ?_ ?_
                    ·
                      refine AWL.y rfl rfl (B rfl) (Yv.loadBox rfl ag_27 (i := 3) rfl (E rfl rfl) rfl) ?_
                      refine AWL.nil ?_
                      refine AWP.one (i := 6) (by kernel_rfl) rfl ?_
                      refine AWL.y rfl rfl (B rfl) (Yv.addN_u64 rfl (E rfl rfl) (E rfl rfl) (fun hg => by omega)) ?_
                      refine AWL.nil ?_
                      refine AWP.one (i := 7) (by kernel_rfl) rfl ?_
                      refine AWL.y rfl rfl (B rfl) (Yv.sliceMap rfl ss_27 (E rfl rfl) (Bound.some_ (E rfl rfl) (fun hg => (Int.toNat_of_nonneg (by omega)).symm)) (Bound.some_ (E rfl rfl) (fun hg => (Int.toNat_of_nonneg (by omega)).symm)) (fun hg => ⟨by omega, by omega⟩)) ?_
                      refine AWL.nil ?_
                      refine AWP.one (i := 8) (by kernel_rfl) rfl ?_
                      refine AWL.appendRow (i := 4) rfl rfl (B rfl) rfl el_27 (B rfl) rfl (E rfl rfl) (SrcT.sl so_27 (B rfl) (E rfl rfl) len_u8s) (by unfold maxLen; omega) (by omega) (fun A157 c157 => ?_)
                      refine AWL.nil ?_
                      refine AWP.one (i := 9) (by kernel_rfl) rfl ?_
                      refine AWL.y rfl rfl (B rfl) (Yv.fieldBox rfl fo_42_3 (E rfl rfl)) ?_
                      refine AWL.nil ?_
                      refine AWP.one (i := 10) (by kernel_rfl) rfl ?_
                      refine AWL.storeBox (i := 3) rfl rfl rfl ag_27 rfl (E rfl rfl) (E rfl rfl) rfl rfl (Nat.le_of_ble_eq_true rfl) ?_
                      refine AWL.nil ?_
                      refine AWP.done (by kernel_rfl) ?_
                      exact ⟨(A157, c157), trivial, Sub.cons rfl rfl (Sub.cons rfl rfl (Sub.cons rfl rfl (Sub.cons rfl rfl (Sub.cons rfl rfl (Sub.cons rfl rfl (Sub.cons rfl rfl Sub.nil)))))), rfl⟩
                    ·
                      refine AWL.y rfl rfl (B rfl) (Yv.addN_u64 rfl (E rfl rfl) (E rfl rfl) (fun hg => by omega)) ?_
                      refine AWL.nil ?_
                      refine AWP.two (i := 1) (j := 7) (by kernel_rfl) rfl rfl ?_ ?_
                      ·
                        refine AWL.y rfl rfl (B rfl) (Yv.loadBox rfl ag_27 (i := 3) rfl (E rfl rfl) rfl) ?_
                        refine AWL.nil ?_
                        refine AWP.one (i := 7) (by kernel_rfl) rfl ?_
                        refine AWL.y rfl rfl (B rfl) (Yv.sliceMap rfl ss_27 (E rfl rfl) (Bound.some_ (E rfl rfl) (fun hg => (Int.toNat_of_nonneg (by omega)).symm)) (Bound.some_ (E rfl rfl) (fun hg => (Int.toNat_of_nonneg (by omega)).symm)) (fun hg => ⟨by omega, by omega⟩)) ?_
                        refine AWL.nil ?_
                        refine AWP.one (i := 8) (by kernel_rfl) rfl ?_
                        refine AWL.appendRow (i := 4) rfl rfl (B rfl) rfl el_27 (B rfl) rfl (E rfl rfl) (SrcT.sl so_27 (B rfl) (E rfl rfl) len_u8s) (by unfold maxLen; omega) (by omega) (fun A157 c157 => ?_)
                        refine AWL.nil ?_
                        refine AWP.one (i := 9) (by kernel_rfl) rfl ?_
                        refine AWL.y rfl rfl (B rfl) (Yv.fieldBox rfl fo_42_3 (E rfl rfl)) ?_
                        refine AWL.nil ?_
                        refine AWP.one (i := 10) (by kernel_rfl) rfl ?_
                        refine AWL.storeBox (i := 3) rfl rfl rfl ag_27 rfl (E rfl rfl) (E rfl rfl) rfl rfl (Nat.le_of_ble_eq_true rfl) ?_
                        refine AWL.nil ?_
                        refine AWP.done (by kernel_rfl) ?_
                        exact ⟨(A157, c157), trivial, Sub.cons rfl rfl (Sub.cons rfl rfl (Sub.cons rfl rfl (Sub.cons rfl rfl (Sub.cons rfl rfl (Sub.cons rfl rfl (Sub.cons rfl rfl Sub.nil)))))), rfl⟩
                      ·
                        refine AWL.y rfl rfl (B rfl) (Yv.sliceMap rfl ss_27 (E rfl rfl) (Bound.some_ (E rfl rfl) (fun hg => (Int.toNat_of_nonneg (by omega)).symm)) (Bound.some_ (E rfl rfl) (fun hg => (Int.toNat_of_nonneg (by omega)).symm)) (fun hg => ⟨by omega, by omega⟩)) ?_
                        refine AWL.nil ?_
                        refine AWP.one (i := 1) (by kernel_rfl) rfl ?_
                        refine AWL.y rfl rfl (B rfl) (Yv.loadBox rfl ag_27 (i := 3) rfl (E rfl rfl) rfl) ?_
                        refine AWL.nil ?_
                        refine AWP.one (i := 8) (by kernel_rfl) rfl ?_
                        refine AWL.appendRow (i := 4) rfl rfl (B rfl) rfl el_27 (B rfl) rfl (E rfl rfl) (SrcT.sl so_27 (B rfl) (E rfl rfl) len_u8s) (by unfold maxLen; omega) (by omega) (fun A157 c157 => ?_)
                        refine AWL.nil ?_
                        refine AWP.one (i := 9) (by kernel_rfl) rfl ?_
                        refine AWL.y rfl rfl (B rfl) (Yv.fieldBox rfl fo_42_3 (E rfl rfl)) ?_
                        refine AWL.nil ?_
                        refine AWP.one (i := 10) (by kernel_rfl) rfl ?_
                        refine AWL.storeBox (i := 3) rfl rfl rfl ag_27 rfl (E rfl rfl) (E rfl rfl) rfl rfl (Nat.le_of_ble_eq_true rfl) ?_
                        refine AWL.nil ?_
                        refine AWP.done (by kernel_rfl) ?_
                        exact ⟨(A157, c157), trivial, Sub.cons rfl rfl (Sub.cons rfl rfl (Sub.cons rfl rfl (Sub.cons rfl rfl (Sub.cons rfl rfl (Sub.cons rfl rfl (Sub.cons rfl rfl Sub.nil)))))), rfl⟩
                  ·
                    rintro q hmid
                    refine AW.freezeCell 4 3 3 rfl (B rfl) rfl rfl ?_
                    refine AW.region ?_
                    refine AWL.y rfl rfl (B rfl) (Yv.fieldBox rfl fo_25_1 (E rfl rfl)) ?_
                    refine AWL.y rfl rfl (B rfl) (Yv.loadBox rfl ag_23 (i := 1) rfl (E rfl rfl) rfl) ?_
                    refine AWL.y rfl rfl (B rfl) (Yv.loadBoxA rfl ag_42 (i := 3) rfl (E rfl rfl) rfl rfl) ?_
                    refine AWL.buildSliceE rfl rfl (B rfl) rfl el_23 (B rfl) rfl (evsC (E rfl rfl) evs0) (Nat.le_of_ble_eq_true rfl) rfl rfl ?_
                    refine AWL.appendRow (i := 2) rfl rfl (B rfl) rfl el_23 (B rfl) rfl (E rfl rfl) (SrcT.sl so_23 (B rfl) (E rfl rfl) rfl) (by unfold maxLen; omega) (by omega) (fun A163 c163 => ?_)
                    refine AWL.y rfl rfl (B rfl) (Yv.fieldBox rfl fo_25_1 (E rfl rfl)) ?_
                    refine AWL.storeBox (i := 1) rfl rfl rfl ag_23 rfl (E rfl rfl) (E rfl rfl) rfl rfl (Nat.le_of_ble_eq_true rfl) ?_
                    refine AWL.nil ?_
                    try refine AW.dropAt 3 ?_
                    refine AW.region ?_
                    refine AWL.y rfl rfl (B rfl) (Yv.move rfl (E rfl rfl)) ?_
                    refine AWL.y rfl rfl (B rfl) (Yv.addN_u64 rfl (E rfl rfl) (E rfl rfl) (fun hg => by omega)) ?_
                    refine AWL.y rfl rfl (B rfl) (Yv.assign rfl (E rfl rfl)) ?_
                    refine AWL.nil ?_
                    rw [rows_load (by omega) hk1 hpk] at hrows
                    have hdt : ((bs.drop (num bs ((num bs 32 8 + 56 * (j : Int)) + 8) 8).toNat).take ((num bs ((num bs 32 8 + 56 * (j : Int)) + 8) 8 + num bs ((num bs 32 8 + 56 * (j : Int)) + 32) 8).toNat - (num bs ((num bs 32 8 + 56 * (j : Int)) + 8) 8).toNat)) = (partSeg bs (num bs 32 8 + 56 * (j : Int))).data := by
                      have e : (num bs ((num bs 32 8 + 56 * (j : Int)) + 8) 8 + num bs ((num bs 32 8 + 56 * (j : Int)) + 32) 8).toNat - (num bs ((num bs 32 8 + 56 * (j : Int)) + 8) 8).toNat = (num bs ((num bs 32 8 + 56 * (j : Int)) + 32) 8).toNat := by omega
                      rw [e]; rfl
                    refine ⟨j + 1, l ++ [partSeg bs (num bs 32 8 + 56 * (j : Int))], A163, c163, ⟨by omega, by simp; omega, ?_⟩, by omega, Sub.cons rfl rfl (Sub.cons rfl rfl (Sub.cons rfl rfl (Sub.cons rfl rfl (Sub.cons rfl rfl (Sub.cons rfl (by simp) Sub.nil))))), ?_⟩
                    · rw [← hrows, Option.map_map]; congr 2
                      · funext x; simp
                      · omega
                    · rw [hdt]; simp only [List.length_append, List.length_singleton, List.flatMap_append]; rfl
            ·
              try replace h4f := of_decide_eq_false h4f
              refine AW.exit ?_
              have hfin : loadF bs = some ⟨num bs 24 8, l⟩ := by
                rw [loadF_rows hh ht, ← hrows, rows_done (by omega)]
                simp
              have hio := loadF_ok h2 hfin
              refine AW.freezeCell 2 1 1 rfl (B rfl) rfl rfl ?_
              refine AW.rseq ?_
              refine AWL.y rfl rfl (B rfl) (Yv.loadBoxA rfl ag_25 (i := 1) rfl (E rfl rfl) rfl rfl) ?_
              refine AWL.callP rfl rfl (B rfl) rfl ce_25 (E rfl rfl) (evsC (E rfl rfl) (evsC (E rfl rfl) evs0)) (may25 ⟨num bs 24 8, l⟩ false hio) (fun t S h => h) ?_
              refine AWL.y rfl rfl (B rfl) (Yv.assign rfl (E rfl rfl)) ?_
              refine AWL.nil ?_
              refine AW.seq ?_
              refine AW.rseq ?_
              refine AWL.y rfl rfl (B rfl) (Yv.move rfl (E rfl rfl)) ?_
              refine AWL.y rfl rfl (B rfl) (Yv.not rfl (E rfl rfl)) ?_
              refine AWL.nil ?_
              refine AW.cond rfl (fun h7t => ?_) (fun h7f => ?_)
              ·
                try replace h7t := of_decide_eq_true h7t
                simp only [Bool.or_eq_true, Bool.and_eq_true, Bool.or_eq_false_iff, Bool.and_eq_false_iff, Bool.not_eq_true', Bool.not_eq_false', decide_eq_true_eq, decide_eq_false_iff_not, Decidable.not_not] at h7t
                refine AW.rseq ?_
                refine AWL.y rfl rfl (B rfl) (Yv.buildS rfl sh_25 evp0 (fun _ => rfl)) ?_
                refine AWL.storeBox (i := 0) rfl rfl rfl ag_25 rfl (E rfl rfl) (E rfl rfl) rfl rfl (Nat.le_of_ble_eq_true rfl) ?_
                refine AWL.y rfl rfl (B rfl) (Yv.assign rfl (E rfl rfl)) ?_
                refine AWL.nil ?_
                refine AW.rowNil 42 4 ?_
                refine AW.freezeCell 2 0 1 rfl (B rfl) rfl rfl ?_
                refine AW.ret (retI (.cellA (i := 0) rfl ag_25 rfl rfl rfl (.tmp rfl .nil)) ?_)
                rw [LoadF_bad hfin h7t]
                rfl
              ·
                try replace h7f := of_decide_eq_false h7f
                simp only [Bool.or_eq_true, Bool.and_eq_true, Bool.or_eq_false_iff, Bool.and_eq_false_iff, Bool.not_eq_true', Bool.not_eq_false', decide_eq_true_eq, decide_eq_false_iff_not, Decidable.not_not] at h7f
                refine AW.skip ?_
                refine AW.rseq ?_
                refine AWL.y rfl rfl (B rfl) (Yv.loadBoxA rfl ag_25 (i := 1) rfl (E rfl rfl) rfl rfl) ?_
                refine AWL.storeBox (i := 0) rfl rfl rfl ag_25 rfl (E rfl rfl) (E rfl rfl) rfl rfl (Nat.le_of_ble_eq_true rfl) ?_
                refine AWL.y rfl rfl (B rfl) (Yv.assign rfl (E rfl rfl)) ?_
                refine AWL.nil ?_
                refine AW.ret (retI (.cellA (i := 0) rfl ag_25 rfl rfl rfl (.tmp rfl .nil)) ?_)
                rw [LoadF_good hfin h7f]
                rfl

set_option maxHeartbeats 1000000 in
theorem ElfLoads4 (bs : List UInt8) (hb : bs.length ≤ 1048576) :
    ACalls Try.prog 4 [u8s bs] [] (fun t_ S => t_ = .v (.bool true)) := by
  have hgi := getD_ok (bs := bs) (by omega)
  refine ACalls.intro Try.func4 rfl Try.ntmps4 (Nat.le_of_ble_eq_true rfl) rfl fun X w0 => ?_
  refine AW.rseq ?_
  refine AWL.y rfl rfl (B rfl) (Yv.assign rfl (E rfl rfl)) ?_
  refine AWL.nil ?_
  refine AW.rseq ?_
  refine AWL.y rfl rfl (B rfl) (Yv.move rfl (E rfl rfl)) ?_
  refine AWL.y rfl rfl (B rfl) (Yv.bytesStr rfl by_27 st_9 (E rfl rfl)) ?_
  refine AWL.y rfl rfl (B rfl) (Yv.assign rfl (E rfl rfl)) ?_
  refine AWL.nil ?_
  refine AW.rseq ?_
  refine AWL.y rfl rfl (B rfl) (Yv.move rfl (E rfl rfl)) ?_
  refine AWL.strBytesSl rfl rfl (B rfl) rfl st_9 so_27 kd_5 (E rfl rfl) (by show bs.length ≤ maxLen; unfold maxLen; omega) ?_
  refine AWL.callT rfl rfl (B rfl) rfl ce_15 (E rfl rfl) (evsC (E rfl rfl) evs0) (refLoad15 bs (by omega)) ?_
  rintro t15 S15 rfl
  refine AWL.y rfl rfl (B rfl) (Yv.move rfl (E rfl rfl)) ?_
  refine AWL.y rfl rfl (B rfl) (Yv.extract rfl (E rfl rfl) rfl) ?_
  refine AWL.y rfl rfl (B rfl) (Yv.extract rfl (E rfl rfl) rfl) ?_
  refine AWL.allocOp rfl rfl (B rfl) rfl zc_25 (fun b4 => ?_)
  refine AWL.storeBox (i := 0) rfl rfl rfl ag_25 rfl (E rfl rfl) (E rfl rfl) rfl rfl (Nat.le_of_ble_eq_true rfl) ?_
  refine AWL.y rfl rfl (B rfl) (Yv.assign rfl (E rfl rfl)) ?_
  refine AWL.nil ?_
  refine AW.rseq ?_
  refine AWL.y rfl rfl (B rfl) (Yv.move rfl (E rfl rfl)) ?_
  refine AWL.call rfl rfl (B rfl) rfl ce_16 (E rfl rfl) (evsC (E rfl rfl) evs0) (S1 := []) (S2 := _) rfl (Load16R bs (by omega)) ?_
  rintro t20 S20 ⟨_, A8, c8, fs, e0, e1, rfl, rfl, hfk, rfl, hsg⟩
  refine AWL.dropAt 1 (AWL.dropAt 0 ?_)
  refine AWL.perm (List.perm_append_comm (l₁ := [.box b4 25 [.v (.int .u64 ((LoadF bs).getD ⟨0, []⟩).entry), .sl 4 (((LoadF bs).getD ⟨0, []⟩).segs.flatMap segCells)]]) (l₂ := ([Ent.row A8 fs.length c8 42 4 (fs.flatMap sCells)] ++ fs.map sRow))) ?_
  refine AWL.y rfl rfl (B rfl) (Yv.move rfl (E rfl rfl)) ?_
  refine AWL.y rfl rfl (B rfl) (Yv.extract rfl (E rfl rfl) rfl) ?_
  refine AWL.y rfl rfl (B rfl) (Yv.extract rfl (E rfl rfl) rfl) ?_
  refine AWL.allocOp rfl rfl (B rfl) rfl zc_25 (fun b6 => ?_)
  refine AWL.perm (List.perm_append_singleton _ _).symm ?_
  refine AWL.storeBox (i := 0) rfl rfl rfl ag_25 rfl (E rfl rfl) (E rfl rfl) rfl rfl (Nat.le_of_ble_eq_true rfl) ?_
  refine AWL.y rfl rfl (B rfl) (Yv.assign rfl (E rfl rfl)) ?_
  refine AWL.nil ?_
  refine AW.rseq ?_
  refine AWL.y rfl rfl (B rfl) (Yv.move rfl (E rfl rfl)) ?_
  refine AWL.callT rfl rfl (B rfl) rfl ce_16 (E rfl rfl) (evsC (E rfl rfl) evs0) (Load16 bs (by omega)) ?_
  rintro t25 S25 rfl
  refine AWL.y rfl rfl (B rfl) (Yv.move rfl (E rfl rfl)) ?_
  refine AWL.y rfl rfl (B rfl) (Yv.extract rfl (E rfl rfl) rfl) ?_
  refine AWL.y rfl rfl (B rfl) (Yv.extract rfl (E rfl rfl) rfl) ?_
  refine AWL.allocOp rfl rfl (B rfl) rfl zc_25 (fun b8 => ?_)
  refine AWL.perm (List.perm_append_singleton _ _).symm ?_
  refine AWL.storeBox (i := 0) rfl rfl rfl ag_25 rfl (E rfl rfl) (E rfl rfl) rfl rfl (Nat.le_of_ble_eq_true rfl) ?_
  refine AWL.y rfl rfl (B rfl) (Yv.assign rfl (E rfl rfl)) ?_
  refine AWL.nil ?_
  refine AW.eqS (S' := (.box b8 25 [.v (.int .u64 ((LoadF bs).getD ⟨0, []⟩).entry), .sl 4 (((LoadF bs).getD ⟨0, []⟩).segs.flatMap segCells)] :: .box b6 25 [.v (.int .u64 ((LoadF bs).getD ⟨0, []⟩).entry), .v (.slice A8 fs.length c8)] :: ([.box b4 25 [.v (.int .u64 ((LoadF bs).getD ⟨0, []⟩).entry), .sl 4 (((LoadF bs).getD ⟨0, []⟩).segs.flatMap segCells)]] ++ ([Ent.row A8 fs.length c8 42 4 (fs.flatMap sCells)] ++ fs.map sRow)))) rfl ?_
  refine AW.seq ?_
  refine AW.rseq ?_
  refine AWL.y rfl rfl (B rfl) (Yv.move rfl (E rfl rfl)) ?_
  refine AWL.y rfl rfl (B rfl) (Yv.move rfl (E rfl rfl)) ?_
  refine AWL.y rfl rfl (B rfl) (Yv.neq rfl (E rfl rfl) (E rfl rfl)) ?_
  refine AWL.y rfl rfl (B rfl) (Yv.move rfl (E rfl rfl)) ?_
  refine AWL.ygF rfl rfl rfl rfl (B rfl) (Yv.loadBoxA rfl ag_25 (i := 1) rfl (E rfl rfl) rfl rfl) ?_
  refine AWL.ygF rfl rfl rfl rfl (B rfl) (Yv.loadBoxA rfl ag_25 (i := 2) rfl (E rfl rfl) rfl rfl) ?_
  refine AWL.callSeesF (ts := [imgT ((LoadF bs).getD ⟨0, []⟩), imgT ((LoadF bs).getD ⟨0, []⟩)]) rfl rfl rfl rfl (B rfl) rfl ce_17 (E rfl rfl) (Seens.two (sees_img (fs := fs) (Eg rfl rfl id) (List.mem_cons_of_mem _ (List.mem_cons_of_mem _ (List.mem_append.2 (.inr (List.mem_append.2 (.inl (List.mem_singleton.2 rfl))))))) (fun f hf => List.mem_cons_of_mem _ (List.mem_cons_of_mem _ (List.mem_append.2 (.inr (List.mem_append.2 (.inr (List.mem_map_of_mem hf))))))) hfk hsg) (Sees.ev (Eg rfl rfl id))) (fun hg => same17 ((LoadF bs).getD ⟨0, []⟩) ((LoadF bs).getD ⟨0, []⟩) hgi hgi) (fun t S h => h) ?_
  refine AWL.ygF rfl rfl rfl rfl (B rfl) (Yv.not rfl (Eg rfl rfl id)) ?_
  refine AWL.y rfl rfl (B rfl) (Yv.pickOr (t := .const (.bool true)) rfl (E rfl rfl) (Eg rfl rfl id)) ?_
  refine AWL.nil ?_
  refine AW.cond rfl (fun h0t => ?_) (fun h0f => ?_)
  ·
    try replace h0t := of_decide_eq_true h0t
    simp at h0t
  ·
    try replace h0f := of_decide_eq_false h0f
    refine AW.skip ?_
    refine AW.rseq ?_
    refine AWL.y rfl rfl (B rfl) (Yv.loadBoxA rfl ag_25 (i := 1) rfl (E rfl rfl) rfl rfl) ?_
    refine AWL.retype (k := 37) (t' := .agg [.v (.int .u64 ((LoadF bs).getD ⟨0, []⟩).entry), .v (.slice A8 fs.length c8)]) rfl (fun w L u h => h) ?_
    refine AWL.perm (List.perm_append_comm (l₁ := ([Ent.row A8 fs.length c8 42 4 (fs.flatMap sCells)] ++ fs.map sRow)) (l₂ := .box b8 25 [.v (.int .u64 ((LoadF bs).getD ⟨0, []⟩).entry), .sl 4 (((LoadF bs).getD ⟨0, []⟩).segs.flatMap segCells)] :: .box b6 25 [.v (.int .u64 ((LoadF bs).getD ⟨0, []⟩).entry), .v (.slice A8 fs.length c8)] :: [.box b4 25 [.v (.int .u64 ((LoadF bs).getD ⟨0, []⟩).entry), .sl 4 (((LoadF bs).getD ⟨0, []⟩).segs.flatMap segCells)]])) ?_
    refine AWL.call rfl rfl (B rfl) rfl ce_18 (E rfl rfl) (evsC (E rfl rfl) evs0) (S1 := ([Ent.row A8 fs.length c8 42 4 (fs.flatMap sCells)] ++ fs.map sRow)) (S2 := _) rfl (spoil18 ((LoadF bs).getD ⟨0, []⟩).entry A8 c8 fs hfk) ?_
    rintro t38 S38 _
    refine AWL.drop (List.sublist_append_right S38 _) ?_
    refine AWL.nil ?_
    refine AW.rseq ?_
    refine AWL.y rfl rfl (B rfl) (Yv.loadBoxA rfl ag_25 (i := 0) rfl (E rfl rfl) rfl rfl) ?_
    refine AWL.y rfl rfl (B rfl) (Yv.loadBoxA rfl ag_25 (i := 2) rfl (E rfl rfl) rfl rfl) ?_
    refine AWL.callP rfl rfl (B rfl) rfl ce_17 (E rfl rfl) (evsC (E rfl rfl) (evsC (E rfl rfl) evs0)) (same17 ((LoadF bs).getD ⟨0, []⟩) ((LoadF bs).getD ⟨0, []⟩) hgi hgi) (fun t S h => h) ?_
    refine AWL.y rfl rfl (B rfl) (Yv.move rfl (E rfl rfl)) ?_
    refine AWL.ygT rfl rfl rfl rfl (B rfl) (Yv.move rfl (E rfl rfl)) ?_
    refine AWL.ygT rfl rfl rfl rfl (B rfl) (Yv.bytesStr rfl by_27 st_9 (Eg rfl rfl id)) ?_
    refine AWL.ygT rfl rfl rfl rfl (B rfl) (Yv.move rfl (E rfl rfl)) ?_
    refine AWL.ygT rfl rfl rfl rfl (B rfl) (Yv.eqlS rfl (Eg rfl rfl id) (Eg rfl rfl id)) ?_
    refine AWL.y rfl rfl (B rfl) (Yv.pickAnd rfl (E rfl rfl) (Eg rfl rfl id)) ?_
    refine AWL.y rfl rfl (B rfl) (Yv.move rfl (E rfl rfl)) ?_
    refine AWL.callPgT rfl rfl rfl rfl (B rfl) rfl ce_14 (E rfl rfl) evs0 (fun hg => known14) (fun t S h => h) ?_
    refine AWL.y rfl rfl (B rfl) (Yv.pickAnd rfl (E rfl rfl) (Eg rfl rfl id)) ?_
    refine AWL.y rfl rfl (B rfl) (Yv.assign rfl (E rfl rfl)) ?_
    refine AWL.nil ?_
    refine AW.ret (retI (.tmp rfl .nil) ?_)
    simp [tupOf]

end Go.Proofs.Ytckkcncgglfbbaa
