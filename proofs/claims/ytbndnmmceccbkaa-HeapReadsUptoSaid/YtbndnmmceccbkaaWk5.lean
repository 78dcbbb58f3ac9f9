/-
  CONTRACTS of the heap package: equality; walked by program.
-/
import Derived.Test.YtbndnmmceccbkaaWk4
import Derived.Test.YtbndnmmceccbkaaCanonB
namespace Go.Proofs.Ytbndnmmceccbkaa
open Go Go.RowKit
set_option linter.unusedVariables false

set_option maxHeartbeats 400000 in
theorem Equal44 (l l' : List RefV) (hl : l.length ≤ 1099511627776) (hl' : l'.length ≤ 1099511627776) :
    ACalls Try.prog 44 [refsT l, refsT l'] [] fun t_ S => t_ = .v (.bool (decide (l = l'))) := by
  refine ACalls.intro Try.func44 rfl Try.ntmps44 (Nat.le_of_ble_eq_true rfl) rfl fun X w0 => ?_
  refine AW.rseq ?_
  refine AWL.y rfl rfl (B rfl) (Yv.assign rfl (E rfl rfl)) ?_
  refine AWL.nil ?_
  refine AW.seq ?_
  refine AW.rseq ?_
  refine AWL.y rfl rfl (B rfl) (Yv.move rfl (E rfl rfl)) ?_
  refine AWL.y rfl rfl (B rfl) (Yv.lenSl rfl so_22 (B rfl) (E rfl rfl) len_refs) ?_
  refine AWL.y rfl rfl (B rfl) (Yv.move rfl (E rfl rfl)) ?_
  refine AWL.y rfl rfl (B rfl) (Yv.lenSl rfl so_22 (B rfl) (E rfl rfl) len_refs) ?_
  refine AWL.y rfl rfl (B rfl) (Yv.neq rfl (E rfl rfl) (E rfl rfl)) ?_
  refine AWL.nil ?_
  refine AW.cond rfl (fun h0t => ?_) (fun h0f => ?_)
  ·
    try replace h0t := of_decide_eq_true h0t
    simp only [Bool.or_eq_true, Bool.and_eq_true, Bool.or_eq_false_iff, Bool.and_eq_false_iff, Bool.not_eq_true', Bool.not_eq_false', decide_eq_true_eq, decide_eq_false_iff_not, Decidable.not_not] at h0t
    refine AW.rseq ?_
    refine AWL.y rfl rfl (B rfl) (Yv.assign rfl (E rfl rfl)) ?_
    refine AWL.nil ?_
    refine AW.ret (retI (.tmp rfl .nil) ?_)
    show T.v (.bool false) = T.v (.bool _)
    rw [ne_len h0t]
  ·
    try replace h0f := of_decide_eq_false h0f
    simp only [Bool.or_eq_true, Bool.and_eq_true, Bool.or_eq_false_iff, Bool.and_eq_false_iff, Bool.not_eq_true', Bool.not_eq_false', decide_eq_true_eq, decide_eq_false_iff_not, Decidable.not_not] at h0f
    have hll : l.length = l'.length := by omega
    refine AW.skip ?_
    refine AW.seq ?_
    refine AW.rseq ?_
    refine AWL.y rfl rfl (B rfl) (Yv.move rfl (E rfl rfl)) ?_
    refine AWL.y rfl rfl (B rfl) (Yv.lenSl rfl so_22 (B rfl) (E rfl rfl) len_refs) ?_
    refine AWL.y rfl rfl (B rfl) (Yv.move rfl (E rfl rfl)) ?_
    refine AWL.nil ?_
    refine AW.block ?_
    refine AW.loop (fun (j : Nat) => [(0, true, refsT l), (1, true, refsT l'), (12, true, .v (.int .i64 (l.length : Int))), (13, true, .v (.int .i64 (j : Int)))]) (fun (j : Nat) => []) (fun (j : Nat) => j ≤ l.length ∧ ∀ i, i < j → l.getD i default = l'.getD i default) (fun (j : Nat) => l.length - j) 0 ?_ ?_ ?_ ?_
    · exact ⟨Nat.zero_le _, fun i hi => by omega⟩
    · exact (Sub.cons rfl rfl (Sub.cons rfl rfl (Sub.cons rfl rfl (Sub.cons rfl rfl Sub.nil))))
    · rfl
    ·
      intro j hinv
      obtain ⟨hj, hn⟩ := hinv
      refine AW.rseq ?_
      refine AWL.y rfl rfl (B rfl) (Yv.lss rfl (E rfl rfl) (E rfl rfl)) ?_
      refine AWL.nil ?_
      refine AW.seq ?_
      refine AW.cond rfl (fun h1t => ?_) (fun h1f => ?_)
      ·
        try replace h1t := of_decide_eq_true h1t
        refine AW.skip ?_
        refine AW.seq ?_
        refine AW.block ?_
        refine AW.rseq ?_
        refine AWL.y rfl rfl (B rfl) (Yv.move rfl (E rfl rfl)) ?_
        refine AWL.y rfl rfl (B rfl) (Yv.assign rfl (E rfl rfl)) ?_
        refine AWL.nil ?_
        refine AW.rseqQ rfl (by kernel_rfl) ?_
        refine AWQ.y rfl rfl (B rfl) (Yv.move rfl (E rfl rfl)) ?_
        refine AWQ.y rfl rfl (B rfl) (Yv.move rfl (E rfl rfl)) ?_
        refine AWQ.y rfl rfl (B rfl) (Yv.indexSl rfl ss_22 (B rfl) (E rfl rfl) (E rfl rfl) (fun hg => ⟨rfl, (by first | omega | (simp only [len_refs, len_things, len_u8s]; omega))⟩)) ?_
        refine AWQ.y rfl rfl (B rfl) (Yv.loadRpA rfl ag_54 (E rfl rfl) (fun hg => ref_get (by omega))) ?_
        refine AWQ.y rfl rfl (B rfl) (Yv.move rfl (E rfl rfl)) ?_
        refine AWQ.y rfl rfl (B rfl) (Yv.move rfl (E rfl rfl)) ?_
        refine AWQ.y rfl rfl (B rfl) (Yv.indexSl rfl ss_22 (B rfl) (E rfl rfl) (E rfl rfl) (fun hg => ⟨rfl, (by first | omega | (simp only [len_refs, len_things, len_u8s]; omega))⟩)) ?_
        refine AWQ.y rfl rfl (B rfl) (Yv.loadRpA rfl ag_54 (E rfl rfl) (fun hg => ref_get (by omega))) ?_
        refine AWQ.y rfl rfl (B rfl) (Yv.neqA rfl fl_54 (E rfl rfl) (E rfl rfl) rfl rfl rfl) ?_
        refine AWQ.nil ?_
        refine AW.cond rfl (fun h2t => ?_) (fun h2f => ?_)
        ·
          try replace h2t := of_decide_eq_true h2t
          replace h2t : (!(decide ((l.getD j default).kind = (l'.getD j default).kind) && (decide ((l.getD j default).n = (l'.getD j default).n) && true))) = true := h2t
          rw [ref_eq] at h2t
          simp only [Bool.or_eq_true, Bool.and_eq_true, Bool.or_eq_false_iff, Bool.and_eq_false_iff, Bool.not_eq_true', Bool.not_eq_false', decide_eq_true_eq, decide_eq_false_iff_not, Decidable.not_not] at h2t
          refine AW.rseq ?_
          refine AWL.y rfl rfl (B rfl) (Yv.assign rfl (E rfl rfl)) ?_
          refine AWL.nil ?_
          refine AW.ret (retI (.tmp rfl .nil) ?_)
          show T.v (.bool false) = T.v (.bool _)
          rw [ne_at h2t]
        ·
          try replace h2f := of_decide_eq_false h2f
          replace h2f : (!(decide ((l.getD j default).kind = (l'.getD j default).kind) && (decide ((l.getD j default).n = (l'.getD j default).n) && true))) = false := h2f
          rw [ref_eq] at h2f
          simp only [Bool.or_eq_true, Bool.and_eq_true, Bool.or_eq_false_iff, Bool.and_eq_false_iff, Bool.not_eq_true', Bool.not_eq_false', decide_eq_true_eq, decide_eq_false_iff_not, Decidable.not_not] at h2f
          refine AW.skip ?_
          refine AW.region ?_
          refine AWL.y rfl rfl (B rfl) (Yv.addN_i64 rfl (E rfl rfl) (E rfl rfl) (fun hg => by omega)) ?_
          refine AWL.y rfl rfl (B rfl) (Yv.move rfl (E rfl rfl)) ?_
          refine AWL.nil ?_
          refine ⟨j + 1, ⟨by omega, fun i hi => ?_⟩, by omega, Sub.cons rfl rfl (Sub.cons rfl rfl (Sub.cons rfl rfl (Sub.cons rfl (by simp) Sub.nil))), rfl⟩
          rcases Nat.lt_or_ge i j with h | h
          · exact hn i h
          · rw [show i = j by omega]; exact h2f
      ·
        try replace h1f := of_decide_eq_false h1f
        refine AW.exit ?_
        refine AW.rseq ?_
        refine AWL.y rfl rfl (B rfl) (Yv.assign rfl (E rfl rfl)) ?_
        refine AWL.nil ?_
        refine AW.ret (retI (.tmp rfl .nil) ?_)
        show T.v (.bool true) = T.v (.bool _)
        rw [eq_all hll (by omega) hn]

set_option maxHeartbeats 400000 in
theorem refs43 (l l' : List RefV) (hl : l.length ≤ 1099511627776) (hl' : l'.length ≤ 1099511627776) :
    ACalls Try.prog 43 [refsT l, refsT l'] [] fun t_ S => t_ = .v (.bool (decide (l = l'))) := by
  refine ACalls.intro Try.func43 rfl Try.ntmps43 (Nat.le_of_ble_eq_true rfl) rfl fun X w0 => ?_
  refine AW.rseq ?_
  refine AWL.y rfl rfl (B rfl) (Yv.assign rfl (E rfl rfl)) ?_
  refine AWL.nil ?_
  refine AW.seq ?_
  refine AW.rseq ?_
  refine AWL.y rfl rfl (B rfl) (Yv.move rfl (E rfl rfl)) ?_
  refine AWL.y rfl rfl (B rfl) (Yv.lenSl rfl so_22 (B rfl) (E rfl rfl) len_refs) ?_
  refine AWL.y rfl rfl (B rfl) (Yv.move rfl (E rfl rfl)) ?_
  refine AWL.y rfl rfl (B rfl) (Yv.lenSl rfl so_22 (B rfl) (E rfl rfl) len_refs) ?_
  refine AWL.y rfl rfl (B rfl) (Yv.neq rfl (E rfl rfl) (E rfl rfl)) ?_
  refine AWL.nil ?_
  refine AW.cond rfl (fun h0t => ?_) (fun h0f => ?_)
  ·
    try replace h0t := of_decide_eq_true h0t
    simp only [Bool.or_eq_true, Bool.and_eq_true, Bool.or_eq_false_iff, Bool.and_eq_false_iff, Bool.not_eq_true', Bool.not_eq_false', decide_eq_true_eq, decide_eq_false_iff_not, Decidable.not_not] at h0t
    refine AW.rseq ?_
    refine AWL.y rfl rfl (B rfl) (Yv.assign rfl (E rfl rfl)) ?_
    refine AWL.nil ?_
    refine AW.ret (retI (.tmp rfl .nil) ?_)
    show T.v (.bool false) = T.v (.bool _)
    rw [ne_len h0t]
  ·
    try replace h0f := of_decide_eq_false h0f
    simp only [Bool.or_eq_true, Bool.and_eq_true, Bool.or_eq_false_iff, Bool.and_eq_false_iff, Bool.not_eq_true', Bool.not_eq_false', decide_eq_true_eq, decide_eq_false_iff_not, Decidable.not_not] at h0f
    have hll : l.length = l'.length := by omega
    refine AW.skip ?_
    refine AW.seq ?_
    refine AW.rseq ?_
    refine AWL.y rfl rfl (B rfl) (Yv.assign rfl (E rfl rfl)) ?_
    refine AWL.nil ?_
    refine AW.block ?_
    refine AW.loop (fun (j : Nat) => [(0, true, refsT l), (1, true, refsT l'), (5, true, .v (.int .i64 (j : Int)))]) (fun (j : Nat) => []) (fun (j : Nat) => j ≤ l.length ∧ ∀ i, i < j → l.getD i default = l'.getD i default) (fun (j : Nat) => l.length - j) 0 ?_ ?_ ?_ ?_
    · exact ⟨Nat.zero_le _, fun i hi => by omega⟩
    · exact (Sub.cons rfl rfl (Sub.cons rfl rfl (Sub.cons rfl rfl Sub.nil)))
    · rfl
    ·
      intro j hinv
      obtain ⟨hj, hn⟩ := hinv
      refine AW.seq ?_
      refine AW.rseq ?_
      refine AWL.y rfl rfl (B rfl) (Yv.move rfl (E rfl rfl)) ?_
      refine AWL.y rfl rfl (B rfl) (Yv.move rfl (E rfl rfl)) ?_
      refine AWL.y rfl rfl (B rfl) (Yv.lenSl rfl so_22 (B rfl) (E rfl rfl) len_refs) ?_
      refine AWL.y rfl rfl (B rfl) (Yv.lss rfl (E rfl rfl) (E rfl rfl)) ?_
      refine AWL.nil ?_
      refine AW.cond rfl (fun h1t => ?_) (fun h1f => ?_)
      ·
        try replace h1t := of_decide_eq_true h1t
        refine AW.skip ?_
        refine AW.seq ?_
        refine AW.block ?_
        refine AW.rseqQ rfl (by kernel_rfl) ?_
        refine AWQ.y rfl rfl (B rfl) (Yv.move rfl (E rfl rfl)) ?_
        refine AWQ.y rfl rfl (B rfl) (Yv.move rfl (E rfl rfl)) ?_
        refine AWQ.y rfl rfl (B rfl) (Yv.indexSl rfl ss_22 (B rfl) (E rfl rfl) (E rfl rfl) (fun hg => ⟨rfl, (by first | omega | (simp only [len_refs, len_things, len_u8s]; omega))⟩)) ?_
        refine AWQ.y rfl rfl (B rfl) (Yv.loadRpA rfl ag_54 (E rfl rfl) (fun hg => ref_get (by omega))) ?_
        refine AWQ.y rfl rfl (B rfl) (Yv.move rfl (E rfl rfl)) ?_
        refine AWQ.y rfl rfl (B rfl) (Yv.move rfl (E rfl rfl)) ?_
        refine AWQ.y rfl rfl (B rfl) (Yv.indexSl rfl ss_22 (B rfl) (E rfl rfl) (E rfl rfl) (fun hg => ⟨rfl, (by first | omega | (simp only [len_refs, len_things, len_u8s]; omega))⟩)) ?_
        refine AWQ.y rfl rfl (B rfl) (Yv.loadRpA rfl ag_54 (E rfl rfl) (fun hg => ref_get (by omega))) ?_
        refine AWQ.y rfl rfl (B rfl) (Yv.neqA rfl fl_54 (E rfl rfl) (E rfl rfl) rfl rfl rfl) ?_
        refine AWQ.nil ?_
        refine AW.cond rfl (fun h2t => ?_) (fun h2f => ?_)
        ·
          try replace h2t := of_decide_eq_true h2t
          replace h2t : (!(decide ((l.getD j default).kind = (l'.getD j default).kind) && (decide ((l.getD j default).n = (l'.getD j default).n) && true))) = true := h2t
          rw [ref_eq] at h2t
          simp only [Bool.or_eq_true, Bool.and_eq_true, Bool.or_eq_false_iff, Bool.and_eq_false_iff, Bool.not_eq_true', Bool.not_eq_false', decide_eq_true_eq, decide_eq_false_iff_not, Decidable.not_not] at h2t
          refine AW.rseq ?_
          refine AWL.y rfl rfl (B rfl) (Yv.assign rfl (E rfl rfl)) ?_
          refine AWL.nil ?_
          refine AW.ret (retI (.tmp rfl .nil) ?_)
          show T.v (.bool false) = T.v (.bool _)
          rw [ne_at h2t]
        ·
          try replace h2f := of_decide_eq_false h2f
          replace h2f : (!(decide ((l.getD j default).kind = (l'.getD j default).kind) && (decide ((l.getD j default).n = (l'.getD j default).n) && true))) = false := h2f
          rw [ref_eq] at h2f
          simp only [Bool.or_eq_true, Bool.and_eq_true, Bool.or_eq_false_iff, Bool.and_eq_false_iff, Bool.not_eq_true', Bool.not_eq_false', decide_eq_true_eq, decide_eq_false_iff_not, Decidable.not_not] at h2f
          refine AW.skip ?_
          refine AW.region ?_
          refine AWL.y rfl rfl (B rfl) (Yv.move rfl (E rfl rfl)) ?_
          refine AWL.y rfl rfl (B rfl) (Yv.addN_i64 rfl (E rfl rfl) (E rfl rfl) (fun hg => by omega)) ?_
          refine AWL.y rfl rfl (B rfl) (Yv.assign rfl (E rfl rfl)) ?_
          refine AWL.nil ?_
          refine ⟨j + 1, ⟨by omega, fun i hi => ?_⟩, by omega, Sub.cons rfl rfl (Sub.cons rfl rfl (Sub.cons rfl (by simp) Sub.nil)), rfl⟩
          rcases Nat.lt_or_ge i j with h | h
          · exact hn i h
          · rw [show i = j by omega]; exact h2f
      ·
        try replace h1f := of_decide_eq_false h1f
        refine AW.exit ?_
        refine AW.rseq ?_
        refine AWL.y rfl rfl (B rfl) (Yv.assign rfl (E rfl rfl)) ?_
        refine AWL.nil ?_
        refine AW.ret (retI (.tmp rfl .nil) ?_)
        show T.v (.bool true) = T.v (.bool _)
        rw [eq_all hll (by omega) hn]

set_option maxHeartbeats 400000 in
theorem Same46 (x y : Thing) (hx : ThingOk 1099511627 x) (hy : ThingOk 1099511627 y) :
    ACalls Try.prog 46 [thingT x, thingT y] [] fun t_ S => t_ = .v (.bool (thingEq x y)) := by
  have hx1 := hx.rl
  have hy1 := hy.rl
  refine ACalls.intro Try.func46 rfl Try.ntmps46 (Nat.le_of_ble_eq_true rfl) rfl fun X w0 => ?_
  refine AW.rseq ?_
  refine AWL.boxOp rfl rfl (B rfl) rfl (E rfl rfl) rfl (fun b2 => ?_)
  refine AWL.boxOp rfl rfl (B rfl) rfl (E rfl rfl) rfl (fun b3 => ?_)
  refine AWL.y rfl rfl (B rfl) (Yv.assign rfl (E rfl rfl)) ?_
  refine AWL.nil ?_
  refine AW.rseq ?_
  refine AWL.y rfl rfl (B rfl) (Yv.fieldBox rfl fo_24_0 (E rfl rfl)) ?_
  refine AWL.y rfl rfl (B rfl) (Yv.loadBox rfl ag_3 (i := 0) rfl (E rfl rfl) rfl) ?_
  refine AWL.y rfl rfl (B rfl) (Yv.fieldBox rfl fo_24_0 (E rfl rfl)) ?_
  refine AWL.y rfl rfl (B rfl) (Yv.loadBox rfl ag_3 (i := 1) rfl (E rfl rfl) rfl) ?_
  refine AWL.y rfl rfl (B rfl) (Yv.eql rfl (E rfl rfl) (E rfl rfl)) ?_
  refine AWL.y rfl rfl (B rfl) (Yv.move rfl (E rfl rfl)) ?_
  refine AWL.ygT rfl rfl rfl rfl (B rfl) (Yv.fieldBox rfl fo_24_1 (E rfl rfl)) ?_
  refine AWL.ygT rfl rfl rfl rfl (B rfl) (Yv.loadBox rfl ag_3 (i := 0) rfl (Eg rfl rfl id) rfl) ?_
  refine AWL.ygT rfl rfl rfl rfl (B rfl) (Yv.fieldBox rfl fo_24_1 (E rfl rfl)) ?_
  refine AWL.ygT rfl rfl rfl rfl (B rfl) (Yv.loadBox rfl ag_3 (i := 1) rfl (Eg rfl rfl id) rfl) ?_
  refine AWL.ygT rfl rfl rfl rfl (B rfl) (Yv.eql rfl (Eg rfl rfl id) (Eg rfl rfl id)) ?_
  refine AWL.y rfl rfl (B rfl) (Yv.pickAnd rfl (E rfl rfl) (Eg rfl rfl id)) ?_
  refine AWL.y rfl rfl (B rfl) (Yv.move rfl (E rfl rfl)) ?_
  refine AWL.ygT rfl rfl rfl rfl (B rfl) (Yv.fieldBox rfl fo_24_2 (E rfl rfl)) ?_
  refine AWL.ygT rfl rfl rfl rfl (B rfl) (Yv.loadBox rfl ag_9 (i := 0) rfl (Eg rfl rfl id) rfl) ?_
  refine AWL.ygT rfl rfl rfl rfl (B rfl) (Yv.fieldBox rfl fo_24_2 (E rfl rfl)) ?_
  refine AWL.ygT rfl rfl rfl rfl (B rfl) (Yv.loadBox rfl ag_9 (i := 1) rfl (Eg rfl rfl id) rfl) ?_
  refine AWL.ygT rfl rfl rfl rfl (B rfl) (Yv.eqlL rfl (Eg rfl rfl id) (Eg rfl rfl id)) ?_
  refine AWL.y rfl rfl (B rfl) (Yv.pickAnd rfl (E rfl rfl) (Eg rfl rfl id)) ?_
  refine AWL.y rfl rfl (B rfl) (Yv.move rfl (E rfl rfl)) ?_
  refine AWL.ygT rfl rfl rfl rfl (B rfl) (Yv.fieldBox rfl fo_24_3 (E rfl rfl)) ?_
  refine AWL.ygT rfl rfl rfl rfl (B rfl) (Yv.loadBox rfl ag_22 (i := 0) rfl (Eg rfl rfl id) rfl) ?_
  refine AWL.ygT rfl rfl rfl rfl (B rfl) (Yv.fieldBox rfl fo_24_3 (E rfl rfl)) ?_
  refine AWL.ygT rfl rfl rfl rfl (B rfl) (Yv.loadBox rfl ag_22 (i := 1) rfl (Eg rfl rfl id) rfl) ?_
  refine AWL.callPgT rfl rfl rfl rfl (B rfl) rfl ce_44 (E rfl rfl) (evsC (Eg rfl rfl id) (evsC (Eg rfl rfl id) evs0)) (fun hg => Equal44 x.refs y.refs (by omega) (by omega)) (fun t S h => h) ?_
  refine AWL.y rfl rfl (B rfl) (Yv.pickAnd rfl (E rfl rfl) (Eg rfl rfl id)) ?_
  refine AWL.y rfl rfl (B rfl) (Yv.assign rfl (E rfl rfl)) ?_
  refine AWL.nil ?_
  refine AW.ret (retI (.tmp rfl .nil) ?_)
  rfl

set_option maxHeartbeats 400000 in
theorem EqualFunc45 (l l' : List Thing) (hl : l.length ≤ 1099511627776) (hl' : l'.length ≤ 1099511627776) (ho : ∀ t ∈ l, ThingOk 1099511627 t) (ho' : ∀ t ∈ l', ThingOk 1099511627 t) :
    ACalls Try.prog 45 [.sl 4 (l.flatMap thingCells), .sl 4 (l'.flatMap thingCells), .v (.func (.func 46) #[] #[])] [] fun t_ S => t_ = .v (.bool (decide (l = l'))) := by
  refine ACalls.intro Try.func45 rfl Try.ntmps45 (Nat.le_of_ble_eq_true rfl) rfl fun X w0 => ?_
  refine AW.rseq ?_
  refine AWL.y rfl rfl (B rfl) (Yv.assign rfl (E rfl rfl)) ?_
  refine AWL.nil ?_
  refine AW.seq ?_
  refine AW.rseq ?_
  refine AWL.y rfl rfl (B rfl) (Yv.move rfl (E rfl rfl)) ?_
  refine AWL.y rfl rfl (B rfl) (Yv.lenSl rfl so_25 (B rfl) (E rfl rfl) len_things) ?_
  refine AWL.y rfl rfl (B rfl) (Yv.move rfl (E rfl rfl)) ?_
  refine AWL.y rfl rfl (B rfl) (Yv.lenSl rfl so_25 (B rfl) (E rfl rfl) len_things) ?_
  refine AWL.y rfl rfl (B rfl) (Yv.neq rfl (E rfl rfl) (E rfl rfl)) ?_
  refine AWL.nil ?_
  refine AW.cond rfl (fun h0t => ?_) (fun h0f => ?_)
  ·
    try replace h0t := of_decide_eq_true h0t
    simp only [Bool.or_eq_true, Bool.and_eq_true, Bool.or_eq_false_iff, Bool.and_eq_false_iff, Bool.not_eq_true', Bool.not_eq_false', decide_eq_true_eq, decide_eq_false_iff_not, Decidable.not_not] at h0t
    refine AW.rseq ?_
    refine AWL.y rfl rfl (B rfl) (Yv.assign rfl (E rfl rfl)) ?_
    refine AWL.nil ?_
    refine AW.ret (retI (.tmp rfl .nil) ?_)
    show T.v (.bool false) = T.v (.bool _)
    rw [ne_len h0t]
  ·
    try replace h0f := of_decide_eq_false h0f
    simp only [Bool.or_eq_true, Bool.and_eq_true, Bool.or_eq_false_iff, Bool.and_eq_false_iff, Bool.not_eq_true', Bool.not_eq_false', decide_eq_true_eq, decide_eq_false_iff_not, Decidable.not_not] at h0f
    have hll : l.length = l'.length := by omega
    refine AW.skip ?_
    refine AW.seq ?_
    refine AW.rseq ?_
    refine AWL.y rfl rfl (B rfl) (Yv.move rfl (E rfl rfl)) ?_
    refine AWL.y rfl rfl (B rfl) (Yv.lenSl rfl so_25 (B rfl) (E rfl rfl) len_things) ?_
    refine AWL.y rfl rfl (B rfl) (Yv.move rfl (E rfl rfl)) ?_
    refine AWL.nil ?_
    refine AW.block ?_
    refine AW.loop (fun (j : Nat) => [(1, true, .sl 4 (l'.flatMap thingCells)), (2, true, .v (.func (.func 46) #[] #[])), (15, true, .sl 4 (l.flatMap thingCells)), (16, true, .v (.int .i64 (l.length : Int))), (17, true, .v (.int .i64 (j : Int)))]) (fun (j : Nat) => []) (fun (j : Nat) => j ≤ l.length ∧ ∀ i, i < j → l.getD i default = l'.getD i default) (fun (j : Nat) => l.length - j) 0 ?_ ?_ ?_ ?_
    · exact ⟨Nat.zero_le _, fun i hi => by omega⟩
    · exact (Sub.cons rfl rfl (Sub.cons rfl rfl (Sub.cons rfl rfl (Sub.cons rfl rfl (Sub.cons rfl rfl Sub.nil)))))
    · rfl
    ·
      intro j hinv
      obtain ⟨hj, hn⟩ := hinv
      refine AW.rseq ?_
      refine AWL.y rfl rfl (B rfl) (Yv.lss rfl (E rfl rfl) (E rfl rfl)) ?_
      refine AWL.nil ?_
      refine AW.seq ?_
      refine AW.cond rfl (fun h1t => ?_) (fun h1f => ?_)
      ·
        try replace h1t := of_decide_eq_true h1t
        refine AW.skip ?_
        refine AW.seq ?_
        refine AW.block ?_
        refine AW.rseq ?_
        refine AWL.y rfl rfl (B rfl) (Yv.move rfl (E rfl rfl)) ?_
        refine AWL.y rfl rfl (B rfl) (Yv.indexSl rfl ss_25 (B rfl) (E rfl rfl) (E rfl rfl) (fun hg => ⟨rfl, (by first | omega | (simp only [len_refs, len_things, len_u8s]; omega))⟩)) ?_
        refine AWL.y rfl rfl (B rfl) (Yv.loadRpA rfl ag_24 (E rfl rfl) (fun hg => thing_get (by omega))) ?_
        refine AWL.allocOp rfl rfl (B rfl) rfl zc_24 (fun b8 => ?_)
        refine AWL.y rfl rfl (B rfl) (Yv.assign rfl (E rfl rfl)) ?_
        refine AWL.storeBox (i := 0) rfl rfl rfl ag_24 rfl (E rfl rfl) (E rfl rfl) rfl rfl (Nat.le_of_ble_eq_true rfl) ?_
        refine AWL.nil ?_
        refine AW.rseq ?_
        refine AWL.y rfl rfl (B rfl) (Yv.move rfl (E rfl rfl)) ?_
        refine AWL.y rfl rfl (B rfl) (Yv.move rfl (E rfl rfl)) ?_
        refine AWL.y rfl rfl (B rfl) (Yv.indexSl rfl ss_25 (B rfl) (E rfl rfl) (E rfl rfl) (fun hg => ⟨rfl, (by first | omega | (simp only [len_refs, len_things, len_u8s]; omega))⟩)) ?_
        refine AWL.y rfl rfl (B rfl) (Yv.loadRpA rfl ag_24 (E rfl rfl) (fun hg => thing_get (by omega))) ?_
        refine AWL.allocOp rfl rfl (B rfl) rfl zc_24 (fun b9 => ?_)
        refine AWL.storeBox (i := 1) rfl rfl rfl ag_24 rfl (E rfl rfl) (E rfl rfl) rfl rfl (Nat.le_of_ble_eq_true rfl) ?_
        refine AWL.nil ?_
        refine AW.rseq ?_
        refine AWL.y rfl rfl (B rfl) (Yv.move rfl (E rfl rfl)) ?_
        refine AWL.y rfl rfl (B rfl) (Yv.loadBoxA rfl ag_24 (i := 0) rfl (E rfl rfl) rfl rfl) ?_
        refine AWL.y rfl rfl (B rfl) (Yv.loadBoxA rfl ag_24 (i := 1) rfl (E rfl rfl) rfl rfl) ?_
        refine AWL.callP rfl rfl (B rfl) rfl ce_46 (E rfl rfl) (evsC (E rfl rfl) (evsC (E rfl rfl) evs0)) (Same46 (l.getD j default) (l'.getD j default) (ho _ (getD_mem' (by omega))) (ho' _ (getD_mem' (by omega)))) (fun t S h => h) ?_
        refine AWL.y rfl rfl (B rfl) (Yv.not rfl (E rfl rfl)) ?_
        refine AWL.nil ?_
        refine AW.cond rfl (fun h2t => ?_) (fun h2f => ?_)
        ·
          try replace h2t := of_decide_eq_true h2t
          replace h2t : (!thingEq (l.getD j default) (l'.getD j default)) = true := h2t
          have h2q : ¬ (l.getD j default) = (l'.getD j default) := fun e => by rw [thingEq_iff.2 e] at h2t; cases h2t
          refine AW.rseq ?_
          refine AWL.y rfl rfl (B rfl) (Yv.assign rfl (E rfl rfl)) ?_
          refine AWL.nil ?_
          refine AW.ret (retI (.tmp rfl .nil) ?_)
          show T.v (.bool false) = T.v (.bool _)
          rw [ne_at h2q]
        ·
          try replace h2f := of_decide_eq_false h2f
          replace h2f : (!thingEq (l.getD j default) (l'.getD j default)) = false := h2f
          rw [Bool.not_eq_false', thingEq_iff] at h2f
          refine AW.skip ?_
          refine AW.dropAt 1 (AW.dropAt 0 ?_)
          refine AW.region ?_
          refine AWL.y rfl rfl (B rfl) (Yv.addN_i64 rfl (E rfl rfl) (E rfl rfl) (fun hg => by omega)) ?_
          refine AWL.y rfl rfl (B rfl) (Yv.move rfl (E rfl rfl)) ?_
          refine AWL.nil ?_
          refine ⟨j + 1, ⟨by omega, fun i hi => ?_⟩, by omega, Sub.cons rfl rfl (Sub.cons rfl rfl (Sub.cons rfl rfl (Sub.cons rfl rfl (Sub.cons rfl (by simp) Sub.nil)))), rfl⟩
          rcases Nat.lt_or_ge i j with h | h
          · exact hn i h
          · rw [show i = j by omega]; exact h2f
      ·
        try replace h1f := of_decide_eq_false h1f
        refine AW.exit ?_
        refine AW.rseq ?_
        refine AWL.y rfl rfl (B rfl) (Yv.assign rfl (E rfl rfl)) ?_
        refine AWL.nil ?_
        refine AW.ret (retI (.tmp rfl .nil) ?_)
        show T.v (.bool true) = T.v (.bool _)
        rw [eq_all hll (by omega) hn]

set_option maxHeartbeats 400000 in
theorem Same21 (g h : Graph) (hgr : GraphOk 1099511627 g) (hhr : GraphOk 1099511627 h) :
    ACalls Try.prog 21 [graphT g, graphT h] [] fun t_ S => t_ = .v (.bool (sameF g h)) := by
  have ag := canonG_ok (by omega) hgr
  have ah := canonG_ok (by omega) hhr
  have ag1 := ag.tl
  have ag2 := ag.rl
  have ah1 := ah.tl
  have ah2 := ah.rl
  refine ACalls.intro Try.func21 rfl Try.ntmps21 (Nat.le_of_ble_eq_true rfl) rfl fun X w0 => ?_
  refine AW.rseq ?_
  refine AWL.boxOp rfl rfl (B rfl) rfl (E rfl rfl) rfl (fun b2 => ?_)
  refine AWL.boxOp rfl rfl (B rfl) rfl (E rfl rfl) rfl (fun b3 => ?_)
  refine AWL.y rfl rfl (B rfl) (Yv.assign rfl (E rfl rfl)) ?_
  refine AWL.nil ?_
  refine AW.rseq ?_
  refine AWL.y rfl rfl (B rfl) (Yv.loadBoxA rfl ag_27 (i := 0) rfl (E rfl rfl) rfl rfl) ?_
  refine AWL.callT rfl rfl (B rfl) rfl ce_18 (E rfl rfl) (evsC (E rfl rfl) evs0) (Canon18 g hgr) ?_
  rintro t11 S11 rfl
  refine AWL.y rfl rfl (B rfl) (Yv.move rfl (E rfl rfl)) ?_
  refine AWL.y rfl rfl (B rfl) (Yv.extract rfl (E rfl rfl) rfl) ?_
  refine AWL.y rfl rfl (B rfl) (Yv.extract rfl (E rfl rfl) rfl) ?_
  refine AWL.allocOp rfl rfl (B rfl) rfl zc_27 (fun b5 => ?_)
  refine AWL.storeBox (i := 2) rfl rfl rfl ag_27 rfl (E rfl rfl) (E rfl rfl) rfl rfl (Nat.le_of_ble_eq_true rfl) ?_
  refine AWL.y rfl rfl (B rfl) (Yv.assign rfl (E rfl rfl)) ?_
  refine AWL.nil ?_
  refine AW.rseq ?_
  refine AWL.y rfl rfl (B rfl) (Yv.loadBoxA rfl ag_27 (i := 1) rfl (E rfl rfl) rfl rfl) ?_
  refine AWL.callT rfl rfl (B rfl) rfl ce_18 (E rfl rfl) (evsC (E rfl rfl) evs0) (Canon18 h hhr) ?_
  rintro t16 S16 rfl
  refine AWL.y rfl rfl (B rfl) (Yv.move rfl (E rfl rfl)) ?_
  refine AWL.y rfl rfl (B rfl) (Yv.extract rfl (E rfl rfl) rfl) ?_
  refine AWL.y rfl rfl (B rfl) (Yv.extract rfl (E rfl rfl) rfl) ?_
  refine AWL.allocOp rfl rfl (B rfl) rfl zc_27 (fun b7 => ?_)
  refine AWL.storeBox (i := 3) rfl rfl rfl ag_27 rfl (E rfl rfl) (E rfl rfl) rfl rfl (Nat.le_of_ble_eq_true rfl) ?_
  refine AWL.y rfl rfl (B rfl) (Yv.assign rfl (E rfl rfl)) ?_
  refine AWL.nil ?_
  refine AW.rseq ?_
  refine AWL.y rfl rfl (B rfl) (Yv.move rfl (E rfl rfl)) ?_
  refine AWL.y rfl rfl (B rfl) (Yv.eql rfl (E rfl rfl) (E rfl rfl)) ?_
  refine AWL.y rfl rfl (B rfl) (Yv.move rfl (E rfl rfl)) ?_
  refine AWL.ygT rfl rfl rfl rfl (B rfl) (Yv.move rfl (E rfl rfl)) ?_
  refine AWL.ygT rfl rfl rfl rfl (B rfl) (Yv.eql rfl (Eg rfl rfl id) (E rfl rfl)) ?_
  refine AWL.y rfl rfl (B rfl) (Yv.pickAnd rfl (E rfl rfl) (Eg rfl rfl id)) ?_
  refine AWL.y rfl rfl (B rfl) (Yv.move rfl (E rfl rfl)) ?_
  refine AWL.ygT rfl rfl rfl rfl (B rfl) (Yv.fieldBox rfl fo_27_1 (E rfl rfl)) ?_
  refine AWL.ygT rfl rfl rfl rfl (B rfl) (Yv.loadBox rfl ag_22 (i := 2) rfl (Eg rfl rfl id) rfl) ?_
  refine AWL.ygT rfl rfl rfl rfl (B rfl) (Yv.fieldBox rfl fo_27_1 (E rfl rfl)) ?_
  refine AWL.ygT rfl rfl rfl rfl (B rfl) (Yv.loadBox rfl ag_22 (i := 3) rfl (Eg rfl rfl id) rfl) ?_
  refine AWL.callPgT rfl rfl rfl rfl (B rfl) rfl ce_44 (E rfl rfl) (evsC (Eg rfl rfl id) (evsC (Eg rfl rfl id) evs0)) (fun hg => Equal44 (canonG g).roots (canonG h).roots (by omega) (by omega)) (fun t S h => h) ?_
  refine AWL.y rfl rfl (B rfl) (Yv.pickAnd rfl (E rfl rfl) (Eg rfl rfl id)) ?_
  refine AWL.y rfl rfl (B rfl) (Yv.move rfl (E rfl rfl)) ?_
  refine AWL.ygT rfl rfl rfl rfl (B rfl) (Yv.fieldBox rfl fo_27_0 (E rfl rfl)) ?_
  refine AWL.ygT rfl rfl rfl rfl (B rfl) (Yv.loadBox rfl ag_25 (i := 2) rfl (Eg rfl rfl id) rfl) ?_
  refine AWL.ygT rfl rfl rfl rfl (B rfl) (Yv.fieldBox rfl fo_27_0 (E rfl rfl)) ?_
  refine AWL.ygT rfl rfl rfl rfl (B rfl) (Yv.loadBox rfl ag_25 (i := 3) rfl (Eg rfl rfl id) rfl) ?_
  refine AWL.callPgT rfl rfl rfl rfl (B rfl) rfl ce_45 (E rfl rfl) (evsC (Eg rfl rfl id) (evsC (Eg rfl rfl id) (evsC (E rfl rfl) evs0))) (fun hg => EqualFunc45 (canonG g).things (canonG h).things (by omega) (by omega) ag.ts ah.ts) (fun t S h => h) ?_
  refine AWL.y rfl rfl (B rfl) (Yv.pickAnd rfl (E rfl rfl) (Eg rfl rfl id)) ?_
  refine AWL.y rfl rfl (B rfl) (Yv.assign rfl (E rfl rfl)) ?_
  refine AWL.nil ?_
  refine AW.ret (retI (.tmp rfl .nil) ?_)
  rfl

set_option maxHeartbeats 400000 in
theorem refEqual19 (g h : Graph) (hgr : GraphOk 1099511627 g) (hhr : GraphOk 1099511627 h) :
    ACalls Try.prog 19 [graphT g, graphT h] [] fun t_ S => t_ = .v (.bool (graphEq g h)) := by
  have ag1 := hgr.tl
  have ag2 := hgr.rl
  have ah1 := hhr.tl
  have ah2 := hhr.rl
  refine ACalls.intro Try.func19 rfl Try.ntmps19 (Nat.le_of_ble_eq_true rfl) rfl fun X w0 => ?_
  refine AW.rseq ?_
  refine AWL.boxOp rfl rfl (B rfl) rfl (E rfl rfl) rfl (fun b2 => ?_)
  refine AWL.boxOp rfl rfl (B rfl) rfl (E rfl rfl) rfl (fun b3 => ?_)
  refine AWL.y rfl rfl (B rfl) (Yv.assign rfl (E rfl rfl)) ?_
  refine AWL.nil ?_
  refine AW.rseq ?_
  refine AWL.y rfl rfl (B rfl) (Yv.fieldBox rfl fo_27_1 (E rfl rfl)) ?_
  refine AWL.y rfl rfl (B rfl) (Yv.loadBox rfl ag_22 (i := 0) rfl (E rfl rfl) rfl) ?_
  refine AWL.y rfl rfl (B rfl) (Yv.fieldBox rfl fo_27_1 (E rfl rfl)) ?_
  refine AWL.y rfl rfl (B rfl) (Yv.loadBox rfl ag_22 (i := 1) rfl (E rfl rfl) rfl) ?_
  refine AWL.callP rfl rfl (B rfl) rfl ce_43 (E rfl rfl) (evsC (E rfl rfl) (evsC (E rfl rfl) evs0)) (refs43 g.roots h.roots (by omega) (by omega)) (fun t S h => h) ?_
  refine AWL.y rfl rfl (B rfl) (Yv.assign rfl (E rfl rfl)) ?_
  refine AWL.nil ?_
  refine AW.seq ?_
  refine AW.rseq ?_
  refine AWL.y rfl rfl (B rfl) (Yv.move rfl (E rfl rfl)) ?_
  refine AWL.y rfl rfl (B rfl) (Yv.not rfl (E rfl rfl)) ?_
  refine AWL.y rfl rfl (B rfl) (Yv.move rfl (E rfl rfl)) ?_
  refine AWL.ygF rfl rfl rfl rfl (B rfl) (Yv.fieldBox rfl fo_27_0 (E rfl rfl)) ?_
  refine AWL.ygF rfl rfl rfl rfl (B rfl) (Yv.loadBox rfl ag_25 (i := 0) rfl (Eg rfl rfl id) rfl) ?_
  refine AWL.ygF rfl rfl rfl rfl (B rfl) (Yv.lenSl rfl so_25 (B rfl) (Eg rfl rfl id) len_things) ?_
  refine AWL.ygF rfl rfl rfl rfl (B rfl) (Yv.fieldBox rfl fo_27_0 (E rfl rfl)) ?_
  refine AWL.ygF rfl rfl rfl rfl (B rfl) (Yv.loadBox rfl ag_25 (i := 1) rfl (Eg rfl rfl id) rfl) ?_
  refine AWL.ygF rfl rfl rfl rfl (B rfl) (Yv.lenSl rfl so_25 (B rfl) (Eg rfl rfl id) len_things) ?_
  refine AWL.ygF rfl rfl rfl rfl (B rfl) (Yv.neq rfl (Eg rfl rfl id) (Eg rfl rfl id)) ?_
  refine AWL.y rfl rfl (B rfl) (Yv.pickOr (t := .const (.bool true)) rfl (E rfl rfl) (Eg rfl rfl id)) ?_
  refine AWL.nil ?_
  refine AW.cond rfl (fun h0t => ?_) (fun h0f => ?_)
  ·
    try replace h0t := of_decide_eq_true h0t
    simp only [Bool.or_eq_true, Bool.and_eq_true, Bool.or_eq_false_iff, Bool.and_eq_false_iff, Bool.not_eq_true', Bool.not_eq_false', decide_eq_true_eq, decide_eq_false_iff_not, Decidable.not_not] at h0t
    refine AW.rseq ?_
    refine AWL.y rfl rfl (B rfl) (Yv.assign rfl (E rfl rfl)) ?_
    refine AWL.nil ?_
    refine AW.ret (retI (.tmp rfl .nil) ?_)
    show T.v (.bool false) = T.v (.bool _)
    rw [graphEq_ne h0t]
  ·
    try replace h0f := of_decide_eq_false h0f
    simp only [Bool.or_eq_true, Bool.and_eq_true, Bool.or_eq_false_iff, Bool.and_eq_false_iff, Bool.not_eq_true', Bool.not_eq_false', decide_eq_true_eq, decide_eq_false_iff_not, Decidable.not_not] at h0f
    obtain ⟨hrr, htt⟩ := h0f
    have hll : g.things.length = h.things.length := by omega
    refine AW.skip ?_
    refine AW.seq ?_
    refine AW.rseq ?_
    refine AWL.y rfl rfl (B rfl) (Yv.assign rfl (E rfl rfl)) ?_
    refine AWL.nil ?_
    refine AW.block ?_
    refine AW.loop (fun (j : Nat) => [(2, true, .v (vp b2)), (3, true, .v (vp b3)), (6, true, .v (.int .i64 (j : Int)))]) (fun (j : Nat) => [.box b2 27 (gCells g), .box b3 27 (gCells h)]) (fun (j : Nat) => j ≤ g.things.length ∧ ∀ i, i < j → g.things.getD i default = h.things.getD i default) (fun (j : Nat) => g.things.length - j) 0 ?_ ?_ ?_ ?_
    · exact ⟨Nat.zero_le _, fun i hi => by omega⟩
    · exact (Sub.cons rfl rfl (Sub.cons rfl rfl (Sub.cons rfl rfl Sub.nil)))
    · rfl
    ·
      intro j hinv
      obtain ⟨hj, hn⟩ := hinv
      refine AW.seq ?_
      refine AW.rseq ?_
      refine AWL.y rfl rfl (B rfl) (Yv.move rfl (E rfl rfl)) ?_
      refine AWL.y rfl rfl (B rfl) (Yv.fieldBox rfl fo_27_0 (E rfl rfl)) ?_
      refine AWL.y rfl rfl (B rfl) (Yv.loadBox rfl ag_25 (i := 0) rfl (E rfl rfl) rfl) ?_
      refine AWL.y rfl rfl (B rfl) (Yv.lenSl rfl so_25 (B rfl) (E rfl rfl) len_things) ?_
      refine AWL.y rfl rfl (B rfl) (Yv.lss rfl (E rfl rfl) (E rfl rfl)) ?_
      refine AWL.nil ?_
      refine AW.cond rfl (fun h1t => ?_) (fun h1f => ?_)
      ·
        try replace h1t := of_decide_eq_true h1t
        have q1 := (hgr.ts _ (getD_mem' (l := g.things) (j := j) (by omega))).rl
        have q2 := (hhr.ts _ (getD_mem' (l := h.things) (j := j) (by omega))).rl
        refine AW.skip ?_
        refine AW.seq ?_
        refine AW.block ?_
        refine AW.rseq ?_
        refine AWL.y rfl rfl (B rfl) (Yv.fieldBox rfl fo_27_0 (E rfl rfl)) ?_
        refine AWL.y rfl rfl (B rfl) (Yv.loadBox rfl ag_25 (i := 0) rfl (E rfl rfl) rfl) ?_
        refine AWL.y rfl rfl (B rfl) (Yv.move rfl (E rfl rfl)) ?_
        refine AWL.y rfl rfl (B rfl) (Yv.indexSl rfl ss_25 (B rfl) (E rfl rfl) (E rfl rfl) (fun hg => ⟨rfl, (by first | omega | (simp only [len_refs, len_things, len_u8s]; omega))⟩)) ?_
        refine AWL.y rfl rfl (B rfl) (Yv.loadRpA rfl ag_24 (E rfl rfl) (fun hg => thing_get (by omega))) ?_
        refine AWL.allocOp rfl rfl (B rfl) rfl zc_24 (fun b7 => ?_)
        refine AWL.storeBox (i := 2) rfl rfl rfl ag_24 rfl (E rfl rfl) (E rfl rfl) rfl rfl (Nat.le_of_ble_eq_true rfl) ?_
        refine AWL.nil ?_
        refine AW.rseq ?_
        refine AWL.y rfl rfl (B rfl) (Yv.fieldBox rfl fo_27_0 (E rfl rfl)) ?_
        refine AWL.y rfl rfl (B rfl) (Yv.loadBox rfl ag_25 (i := 1) rfl (E rfl rfl) rfl) ?_
        refine AWL.y rfl rfl (B rfl) (Yv.move rfl (E rfl rfl)) ?_
        refine AWL.y rfl rfl (B rfl) (Yv.indexSl rfl ss_25 (B rfl) (E rfl rfl) (E rfl rfl) (fun hg => ⟨rfl, (by first | omega | (simp only [len_refs, len_things, len_u8s]; omega))⟩)) ?_
        refine AWL.y rfl rfl (B rfl) (Yv.loadRpA rfl ag_24 (E rfl rfl) (fun hg => thing_get (by omega))) ?_
        refine AWL.allocOp rfl rfl (B rfl) rfl zc_24 (fun b8 => ?_)
        refine AWL.storeBox (i := 3) rfl rfl rfl ag_24 rfl (E rfl rfl) (E rfl rfl) rfl rfl (Nat.le_of_ble_eq_true rfl) ?_
        refine AWL.nil ?_
        refine AW.rseq ?_
        refine AWL.y rfl rfl (B rfl) (Yv.fieldBox rfl fo_24_3 (E rfl rfl)) ?_
        refine AWL.y rfl rfl (B rfl) (Yv.loadBox rfl ag_22 (i := 2) rfl (E rfl rfl) rfl) ?_
        refine AWL.y rfl rfl (B rfl) (Yv.fieldBox rfl fo_24_3 (E rfl rfl)) ?_
        refine AWL.y rfl rfl (B rfl) (Yv.loadBox rfl ag_22 (i := 3) rfl (E rfl rfl) rfl) ?_
        refine AWL.callP rfl rfl (B rfl) rfl ce_43 (E rfl rfl) (evsC (E rfl rfl) (evsC (E rfl rfl) evs0)) (refs43 (g.things.getD j default).refs (h.things.getD j default).refs (by omega) (by omega)) (fun t S h => h) ?_
        refine AWL.y rfl rfl (B rfl) (Yv.assign rfl (E rfl rfl)) ?_
        refine AWL.nil ?_
        refine AW.rseq ?_
        refine AWL.y rfl rfl (B rfl) (Yv.move rfl (E rfl rfl)) ?_
        refine AWL.y rfl rfl (B rfl) (Yv.not rfl (E rfl rfl)) ?_
        refine AWL.y rfl rfl (B rfl) (Yv.move rfl (E rfl rfl)) ?_
        refine AWL.ygF rfl rfl rfl rfl (B rfl) (Yv.fieldBox rfl fo_24_0 (E rfl rfl)) ?_
        refine AWL.ygF rfl rfl rfl rfl (B rfl) (Yv.loadBox rfl ag_3 (i := 2) rfl (Eg rfl rfl id) rfl) ?_
        refine AWL.ygF rfl rfl rfl rfl (B rfl) (Yv.fieldBox rfl fo_24_0 (E rfl rfl)) ?_
        refine AWL.ygF rfl rfl rfl rfl (B rfl) (Yv.loadBox rfl ag_3 (i := 3) rfl (Eg rfl rfl id) rfl) ?_
        refine AWL.ygF rfl rfl rfl rfl (B rfl) (Yv.neq rfl (Eg rfl rfl id) (Eg rfl rfl id)) ?_
        refine AWL.y rfl rfl (B rfl) (Yv.pickOr (t := .const (.bool true)) rfl (E rfl rfl) (Eg rfl rfl id)) ?_
        refine AWL.y rfl rfl (B rfl) (Yv.move rfl (E rfl rfl)) ?_
        refine AWL.ygF rfl rfl rfl rfl (B rfl) (Yv.fieldBox rfl fo_24_1 (E rfl rfl)) ?_
        refine AWL.ygF rfl rfl rfl rfl (B rfl) (Yv.loadBox rfl ag_3 (i := 2) rfl (Eg rfl rfl id) rfl) ?_
        refine AWL.ygF rfl rfl rfl rfl (B rfl) (Yv.fieldBox rfl fo_24_1 (E rfl rfl)) ?_
        refine AWL.ygF rfl rfl rfl rfl (B rfl) (Yv.loadBox rfl ag_3 (i := 3) rfl (Eg rfl rfl id) rfl) ?_
        refine AWL.ygF rfl rfl rfl rfl (B rfl) (Yv.neq rfl (Eg rfl rfl id) (Eg rfl rfl id)) ?_
        refine AWL.y rfl rfl (B rfl) (Yv.pickOr (t := .const (.bool true)) rfl (E rfl rfl) (Eg rfl rfl id)) ?_
        refine AWL.y rfl rfl (B rfl) (Yv.move rfl (E rfl rfl)) ?_
        refine AWL.ygF rfl rfl rfl rfl (B rfl) (Yv.fieldBox rfl fo_24_2 (E rfl rfl)) ?_
        refine AWL.ygF rfl rfl rfl rfl (B rfl) (Yv.loadBox rfl ag_9 (i := 2) rfl (Eg rfl rfl id) rfl) ?_
        refine AWL.ygF rfl rfl rfl rfl (B rfl) (Yv.fieldBox rfl fo_24_2 (E rfl rfl)) ?_
        refine AWL.ygF rfl rfl rfl rfl (B rfl) (Yv.loadBox rfl ag_9 (i := 3) rfl (Eg rfl rfl id) rfl) ?_
        refine AWL.ygF rfl rfl rfl rfl (B rfl) (Yv.neqL rfl (Eg rfl rfl id) (Eg rfl rfl id)) ?_
        refine AWL.y rfl rfl (B rfl) (Yv.pickOr (t := .const (.bool true)) rfl (E rfl rfl) (Eg rfl rfl id)) ?_
        refine AWL.nil ?_
        refine AW.cond rfl (fun h2t => ?_) (fun h2f => ?_)
        ·
          try replace h2t := of_decide_eq_true h2t
          have h2q := thing_ne h2t
          refine AW.rseq ?_
          refine AWL.y rfl rfl (B rfl) (Yv.assign rfl (E rfl rfl)) ?_
          refine AWL.nil ?_
          refine AW.ret (retI (.tmp rfl .nil) ?_)
          show T.v (.bool false) = T.v (.bool _)
          rw [graphEq_at h2q]
        ·
          try replace h2f := of_decide_eq_false h2f
          replace h2f := thing_eq_of h2f
          refine AW.skip ?_
          refine AW.dropAt 3 (AW.dropAt 2 ?_)
          refine AW.region ?_
          refine AWL.y rfl rfl (B rfl) (Yv.move rfl (E rfl rfl)) ?_
          refine AWL.y rfl rfl (B rfl) (Yv.addN_i64 rfl (E rfl rfl) (E rfl rfl) (fun hg => by omega)) ?_
          refine AWL.y rfl rfl (B rfl) (Yv.assign rfl (E rfl rfl)) ?_
          refine AWL.nil ?_
          refine ⟨j + 1, ⟨by omega, fun i hi => ?_⟩, by omega, Sub.cons rfl rfl (Sub.cons rfl rfl (Sub.cons rfl (by simp) Sub.nil)), rfl⟩
          rcases Nat.lt_or_ge i j with h | h
          · exact hn i h
          · rw [show i = j by omega]; exact h2f
      ·
        try replace h1f := of_decide_eq_false h1f
        refine AW.exit ?_
        refine AW.rseq ?_
        refine AWL.y rfl rfl (B rfl) (Yv.assign rfl (E rfl rfl)) ?_
        refine AWL.nil ?_
        refine AW.ret (retI (.tmp rfl .nil) ?_)
        show T.v (.bool true) = T.v (.bool _)
        rw [graphEq_all hrr hll (by omega) hn]

end Go.Proofs.Ytbndnmmceccbkaa
