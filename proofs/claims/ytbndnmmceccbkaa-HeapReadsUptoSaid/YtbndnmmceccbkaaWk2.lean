/-
  CONTRACTS of the heap package: sizes, headers, checks; walked by program.
-/
import Derived.Test.YtbndnmmceccbkaaWk1
namespace Go.Proofs.Ytbndnmmceccbkaa
open Go Go.RowKit
set_option linter.unusedVariables false

set_option maxHeartbeats 400000 in
theorem Size9 (t : Thing) (ht : ThingOk 1099511627 t) :
    ACalls Try.prog 9 [thingT t] [] fun t_ S => t_ = .v (.int .i64 (sizeF t)) := by
  have hb1 := ht.by_
  have hb2 := ht.rl
  have hb3 := ht.g0
  have hb4 := ht.g1
  have hb5 := ht.k0
  have hb6 := ht.k1
  have hlo := long_le ht
  refine ACalls.intro Try.func9 rfl Try.ntmps9 (Nat.le_of_ble_eq_true rfl) rfl fun X w0 => ?_
  refine AW.rseq ?_
  refine AWL.boxOp rfl rfl (B rfl) rfl (E rfl rfl) rfl (fun b1 => ?_)
  refine AWL.y rfl rfl (B rfl) (Yv.assign rfl (E rfl rfl)) ?_
  refine AWL.nil ?_
  refine AW.seq ?_
  refine AW.rseq ?_
  refine AWL.y rfl rfl (B rfl) (Yv.loadBoxA rfl ag_24 (i := 0) rfl (E rfl rfl) rfl rfl) ?_
  refine AWL.callP rfl rfl (B rfl) rfl ce_29 (E rfl rfl) (evsC (E rfl rfl) evs0) (made29 t ht) (fun t S h => h) ?_
  refine AWL.y rfl rfl (B rfl) (Yv.not rfl (E rfl rfl)) ?_
  refine AWL.nil ?_
  refine AW.cond rfl (fun h0t => ?_) (fun h0f => ?_)
  ·
    try replace h0t := of_decide_eq_true h0t
    simp only [Bool.or_eq_true, Bool.and_eq_true, Bool.or_eq_false_iff, Bool.and_eq_false_iff, Bool.not_eq_true', Bool.not_eq_false', decide_eq_true_eq, decide_eq_false_iff_not, Decidable.not_not] at h0t
    refine AW.rseq ?_
    refine AWL.y rfl rfl (B rfl) (Yv.assign rfl (E rfl rfl)) ?_
    refine AWL.nil ?_
    refine AW.ret (retI (.tmp rfl .nil) ?_)
    show T.v (.int .i64 _) = T.v (.int .i64 _)
    rw [sizeF, if_neg (by rw [h0t]; decide)]
    first | done | rfl
  ·
    try replace h0f := of_decide_eq_false h0f
    simp only [Bool.or_eq_true, Bool.and_eq_true, Bool.or_eq_false_iff, Bool.and_eq_false_iff, Bool.not_eq_true', Bool.not_eq_false', decide_eq_true_eq, decide_eq_false_iff_not, Decidable.not_not] at h0f
    refine AW.skip ?_
    refine AW.rseqQ rfl (by kernel_rfl) ?_
    refine AWQ.y rfl rfl (B rfl) (Yv.fieldBox rfl fo_24_0 (E rfl rfl)) ?_
    refine AWQ.y rfl rfl (B rfl) (Yv.loadBox rfl ag_3 (i := 0) rfl (E rfl rfl) rfl) ?_
    refine AWQ.y rfl rfl (B rfl) (Yv.loadBoxA rfl ag_24 (i := 0) rfl (E rfl rfl) rfl rfl) ?_
    refine AWQ.callP rfl rfl (B rfl) rfl ce_31 (E rfl rfl) (evsC (E rfl rfl) evs0) (long31 t ht) (fun t S h => h) ?_
    refine AWQ.callP rfl rfl (B rfl) rfl ce_30 (E rfl rfl) (evsC (E rfl rfl) (evsC (E rfl rfl) evs0)) (span30 t.kind (longF t) (by omega) (by omega)) (fun t S h => h) ?_
    refine AWQ.y rfl rfl (B rfl) (Yv.assign rfl (E rfl rfl)) ?_
    refine AWQ.nil ?_
    refine AW.ret (retI (.tmp rfl .nil) ?_)
    show T.v (.int .i64 _) = T.v (.int .i64 _)
    rw [sizeF, if_pos h0f]
    first | done | rfl

set_option maxHeartbeats 400000 in
theorem Header11 (t : Thing) (ht : ThingOk 1099511627 t) :
    ACalls Try.prog 11 [thingT t] [] fun t_ S => t_ = .v (.int .u64 (headF t)) := by
  have hb1 := ht.by_
  have hb2 := ht.rl
  have hb3 := ht.g0
  have hb4 := ht.g1
  have hb5 := ht.k0
  have hb6 := ht.k1
  have hlo := long_le ht
  refine ACalls.intro Try.func11 rfl Try.ntmps11 (Nat.le_of_ble_eq_true rfl) rfl fun X w0 => ?_
  refine AW.rseq ?_
  refine AWL.boxOp rfl rfl (B rfl) rfl (E rfl rfl) rfl (fun b1 => ?_)
  refine AWL.y rfl rfl (B rfl) (Yv.assign rfl (E rfl rfl)) ?_
  refine AWL.nil ?_
  refine AW.seq ?_
  refine AW.rseq ?_
  refine AWL.y rfl rfl (B rfl) (Yv.loadBoxA rfl ag_24 (i := 0) rfl (E rfl rfl) rfl rfl) ?_
  refine AWL.callP rfl rfl (B rfl) rfl ce_29 (E rfl rfl) (evsC (E rfl rfl) evs0) (made29 t ht) (fun t S h => h) ?_
  refine AWL.y rfl rfl (B rfl) (Yv.not rfl (E rfl rfl)) ?_
  refine AWL.nil ?_
  refine AW.cond rfl (fun h0t => ?_) (fun h0f => ?_)
  ·
    try replace h0t := of_decide_eq_true h0t
    simp only [Bool.or_eq_true, Bool.and_eq_true, Bool.or_eq_false_iff, Bool.and_eq_false_iff, Bool.not_eq_true', Bool.not_eq_false', decide_eq_true_eq, decide_eq_false_iff_not, Decidable.not_not] at h0t
    refine AW.rseq ?_
    refine AWL.y rfl rfl (B rfl) (Yv.assign rfl (E rfl rfl)) ?_
    refine AWL.nil ?_
    refine AW.ret (retI (.tmp rfl .nil) ?_)
    show T.v (.int .u64 _) = T.v (.int .u64 _)
    rw [headF, if_neg (by rw [h0t]; decide)]
    first | done | rfl
  ·
    try replace h0f := of_decide_eq_false h0f
    simp only [Bool.or_eq_true, Bool.and_eq_true, Bool.or_eq_false_iff, Bool.and_eq_false_iff, Bool.not_eq_true', Bool.not_eq_false', decide_eq_true_eq, decide_eq_false_iff_not, Decidable.not_not] at h0f
    obtain ⟨q1, q2, q3, q4, q5, q6, q7⟩ := made_spec h0f
    refine AW.skip ?_
    refine AW.rseqQ rfl (by kernel_rfl) ?_
    refine AWQ.y rfl rfl (B rfl) (Yv.fieldBox rfl fo_24_0 (E rfl rfl)) ?_
    refine AWQ.y rfl rfl (B rfl) (Yv.loadBox rfl ag_3 (i := 0) rfl (E rfl rfl) rfl) ?_
    refine AWQ.y rfl rfl (B rfl) (Yv.convN_u64 rfl Try.underlying3 kd_29 (E rfl rfl) (fun hg => by omega)) ?_
    refine AWQ.y rfl rfl (B rfl) (Yv.shlCN_u64 2 (by decide) (by decide) rfl (E rfl rfl) (E rfl rfl) (fun hg => by omega)) ?_
    refine AWQ.y rfl rfl (B rfl) (Yv.bits rfl rfl (E rfl rfl) (E rfl rfl)) ?_
    refine AWQ.y rfl rfl (B rfl) (Yv.loadBoxA rfl ag_24 (i := 0) rfl (E rfl rfl) rfl rfl) ?_
    refine AWQ.callP rfl rfl (B rfl) rfl ce_31 (E rfl rfl) (evsC (E rfl rfl) evs0) (long31 t ht) (fun t S h => h) ?_
    refine AWQ.y rfl rfl (B rfl) (Yv.convN_u64 rfl Try.underlying2 kd_29 (E rfl rfl) (fun hg => by omega)) ?_
    refine AWQ.y rfl rfl (B rfl) (Yv.shlCN_u64 16777216 (by decide) (by decide) rfl (E rfl rfl) (E rfl rfl) (fun hg => by omega)) ?_
    refine AWQ.y rfl rfl (B rfl) (Yv.bits rfl rfl (E rfl rfl) (E rfl rfl)) ?_
    refine AWQ.y rfl rfl (B rfl) (Yv.assign rfl (E rfl rfl)) ?_
    refine AWQ.nil ?_
    refine AW.seq ?_
    refine AW.rseq ?_
    refine AWL.y rfl rfl (B rfl) (Yv.fieldBox rfl fo_24_0 (E rfl rfl)) ?_
    refine AWL.y rfl rfl (B rfl) (Yv.loadBox rfl ag_3 (i := 0) rfl (E rfl rfl) rfl) ?_
    refine AWL.y rfl rfl (B rfl) (Yv.neq rfl (E rfl rfl) (E rfl rfl)) ?_
    refine AWL.nil ?_
    refine AW.cond rfl (fun h1t => ?_) (fun h1f => ?_)
    ·
      try replace h1t := of_decide_eq_true h1t
      simp only [Bool.or_eq_true, Bool.and_eq_true, Bool.or_eq_false_iff, Bool.and_eq_false_iff, Bool.not_eq_true', Bool.not_eq_false', decide_eq_true_eq, decide_eq_false_iff_not, Decidable.not_not] at h1t
      have q8 := q5 h1t
      refine AW.region ?_
      refine AWL.y rfl rfl (B rfl) (Yv.move rfl (E rfl rfl)) ?_
      refine AWL.y rfl rfl (B rfl) (Yv.fieldBox rfl fo_24_1 (E rfl rfl)) ?_
      refine AWL.y rfl rfl (B rfl) (Yv.loadBox rfl ag_3 (i := 0) rfl (E rfl rfl) rfl) ?_
      refine AWL.y rfl rfl (B rfl) (Yv.convN_u64 rfl Try.underlying3 kd_29 (E rfl rfl) (fun hg => by omega)) ?_
      refine AWL.y rfl rfl (B rfl) (Yv.shlCN_u64 256 (by decide) (by decide) rfl (E rfl rfl) (E rfl rfl) (fun hg => by omega)) ?_
      refine AWL.y rfl rfl (B rfl) (Yv.bits rfl rfl (E rfl rfl) (E rfl rfl)) ?_
      refine AWL.y rfl rfl (B rfl) (Yv.assign rfl (E rfl rfl)) ?_
      refine AWL.nil ?_
      refine AW.rseq ?_
      refine AWL.y rfl rfl (B rfl) (Yv.move rfl (E rfl rfl)) ?_
      refine AWL.y rfl rfl (B rfl) (Yv.assign rfl (E rfl rfl)) ?_
      refine AWL.nil ?_
      refine AW.ret (retI (.tmp rfl .nil) ?_)
      show T.v (.int .u64 _) = T.v (.int .u64 _)
      obtain ⟨o1, o2⟩ := head_or t.kind (longF t) t.tag (by omega) (by omega) (by omega) (by omega) q3 q8
      rw [headF, if_pos h0f, if_neg h1t, o1, o2]
    ·
      try replace h1f := of_decide_eq_false h1f
      simp only [Bool.or_eq_true, Bool.and_eq_true, Bool.or_eq_false_iff, Bool.and_eq_false_iff, Bool.not_eq_true', Bool.not_eq_false', decide_eq_true_eq, decide_eq_false_iff_not, Decidable.not_not] at h1f
      refine AW.skip ?_
      refine AW.rseq ?_
      refine AWL.y rfl rfl (B rfl) (Yv.move rfl (E rfl rfl)) ?_
      refine AWL.y rfl rfl (B rfl) (Yv.assign rfl (E rfl rfl)) ?_
      refine AWL.nil ?_
      refine AW.ret (retI (.tmp rfl .nil) ?_)
      show T.v (.int .u64 _) = T.v (.int .u64 _)
      obtain ⟨o1, o2⟩ := head_or t.kind (longF t) 0 (by omega) (by omega) (by omega) (by omega) (by omega) (by omega)
      rw [headF, if_pos h0f, if_pos h1f, o1]
      congr 2; omega

set_option maxHeartbeats 400000 in
theorem IndexFunc58 (l : List RefV) (f : FuncId) (q : Value) (S0 : St) (p : RefV → Bool) (hb : l.length ≤ 1099511627776) (hce : calleeB Try.prog f = true) (hF : ∀ r ∈ l, ACalls Try.prog f [.agg (refCells r), .v q] S0 (fun t_ S => t_ = .v (.bool (p r)) ∧ S = S0)) :
    ACalls Try.prog 58 [refsT l, .v (.func (.func f) #[] #[q])] S0 (fun t_ S => t_ = .v (.int .i64 (ixF p l)) ∧ S = S0) := by
  refine ACalls.intro Try.func58 rfl Try.ntmps58 (Nat.le_of_ble_eq_true rfl) rfl fun X w0 => ?_
  refine AW.rseq ?_
  refine AWL.y rfl rfl (B rfl) (Yv.assign rfl (E rfl rfl)) ?_
  refine AWL.nil ?_
  refine AW.seq ?_
  refine AW.rseq ?_
  refine AWL.y rfl rfl (B rfl) (Yv.move rfl (E rfl rfl)) ?_
  refine AWL.y rfl rfl (B rfl) (Yv.lenSl rfl so_22 (B rfl) (E rfl rfl) len_refs) ?_
  refine AWL.y rfl rfl (B rfl) (Yv.move rfl (E rfl rfl)) ?_
  refine AWL.nil ?_
  refine AW.block ?_
  refine AW.loop (fun (j : Nat) => [(0, true, refsT l), (1, true, .v (.func (.func f) #[] #[q])), (7, true, .v (.int .i64 (l.length : Int))), (8, true, .v (.int .i64 (j : Int)))]) (fun (j : Nat) => S0) (fun (j : Nat) => j ≤ l.length ∧ ∀ i, i < j → p (l.getD i default) = false) (fun (j : Nat) => l.length - j) 0 ?_ ?_ ?_ ?_
  · exact ⟨Nat.zero_le _, fun i hi => by omega⟩
  · exact (Sub.cons rfl rfl (Sub.cons rfl rfl (Sub.cons rfl rfl (Sub.cons rfl rfl Sub.nil))))
  · rfl
  ·
    intro j hinv
    obtain ⟨hj, hn⟩ := hinv
    refine AW.rseq ?_
    refine AWL.y rfl rfl (B rfl) (Yv.lss rfl (E rfl rfl) (E rfl rfl)) ?_
    refine AWL.nil ?_
    refine AW.seq ?_
    refine AW.cond rfl (fun h0t => ?_) (fun h0f => ?_)
    ·
      try replace h0t := of_decide_eq_true h0t
      refine AW.skip ?_
      refine AW.seq ?_
      refine AW.block ?_
      refine AW.rseq ?_
      refine AWL.y rfl rfl (B rfl) (Yv.move rfl (E rfl rfl)) ?_
      refine AWL.y rfl rfl (B rfl) (Yv.assign rfl (E rfl rfl)) ?_
      refine AWL.nil ?_
      refine AW.rseq ?_
      refine AWL.y rfl rfl (B rfl) (Yv.move rfl (E rfl rfl)) ?_
      refine AWL.y rfl rfl (B rfl) (Yv.move rfl (E rfl rfl)) ?_
      refine AWL.y rfl rfl (B rfl) (Yv.move rfl (E rfl rfl)) ?_
      refine AWL.y rfl rfl (B rfl) (Yv.indexSl rfl ss_22 (B rfl) (E rfl rfl) (E rfl rfl) (fun hg => ⟨rfl, (by first | omega | (simp only [len_refs, len_things, len_u8s]; omega))⟩)) ?_
      refine AWL.y rfl rfl (B rfl) (Yv.loadRpA rfl ag_54 (E rfl rfl) (fun hg => ref_get (by omega))) ?_
      refine AWL.callK rfl rfl (B rfl) rfl hce (E rfl rfl) (evsC (E rfl rfl) evs0) (S1 := S0) (S2 := []) (List.append_nil S0).symm (hF (l.getD j default) (getD_mem' (by omega))) (fun t S h => h) ?_
      refine AWL.nil ?_
      refine AW.cond rfl (fun h1t => ?_) (fun h1f => ?_)
      ·
        try replace h1t := of_decide_eq_true h1t
        refine AW.rseq ?_
        refine AWL.y rfl rfl (B rfl) (Yv.move rfl (E rfl rfl)) ?_
        refine AWL.y rfl rfl (B rfl) (Yv.assign rfl (E rfl rfl)) ?_
        refine AWL.nil ?_
        refine AW.ret (retI (.tmp rfl .nil) ?_)
        refine ⟨?_, rfl⟩
        show T.v (.int .i64 _) = T.v (.int .i64 _)
        rw [ixF_at (by omega) h1t hn]
      ·
        try replace h1f := of_decide_eq_false h1f
        refine AW.skip ?_
        refine AW.region ?_
        refine AWL.y rfl rfl (B rfl) (Yv.addN_i64 rfl (E rfl rfl) (E rfl rfl) (fun hg => by omega)) ?_
        refine AWL.y rfl rfl (B rfl) (Yv.move rfl (E rfl rfl)) ?_
        refine AWL.nil ?_
        refine ⟨j + 1, ⟨by omega, fun i hi => ?_⟩, by omega, Sub.cons rfl rfl (Sub.cons rfl rfl (Sub.cons rfl rfl (Sub.cons rfl (by simp) Sub.nil))), rfl⟩
        rcases Nat.lt_or_ge i j with h | h
        · exact hn i h
        · rw [show i = j by omega]; exact h1f
    ·
      try replace h0f := of_decide_eq_false h0f
      refine AW.exit ?_
      refine AW.rseq ?_
      refine AWL.y rfl rfl (B rfl) (Yv.assign rfl (E rfl rfl)) ?_
      refine AWL.nil ?_
      refine AW.ret (retI (.tmp rfl .nil) ?_)
      refine ⟨?_, rfl⟩
      show T.v (.int .i64 _) = T.v (.int .i64 _)
      rw [ixF_none (by omega) hn]

set_option maxHeartbeats 400000 in
theorem ContainsFunc37 (l : List RefV) (f : FuncId) (q : Value) (S0 : St) (p : RefV → Bool) (hb : l.length ≤ 1099511627776) (hce : calleeB Try.prog f = true) (hF : ∀ r ∈ l, ACalls Try.prog f [.agg (refCells r), .v q] S0 (fun t_ S => t_ = .v (.bool (p r)) ∧ S = S0)) :
    ACalls Try.prog 37 [refsT l, .v (.func (.func f) #[] #[q])] S0 (fun t_ S => t_ = .v (.bool (l.any p)) ∧ S = S0) := by
  refine ACalls.intro Try.func37 rfl Try.ntmps37 (Nat.le_of_ble_eq_true rfl) rfl fun X w0 => ?_
  refine AW.rseq ?_
  refine AWL.y rfl rfl (B rfl) (Yv.assign rfl (E rfl rfl)) ?_
  refine AWL.nil ?_
  refine AW.rseq ?_
  refine AWL.y rfl rfl (B rfl) (Yv.move rfl (E rfl rfl)) ?_
  refine AWL.y rfl rfl (B rfl) (Yv.move rfl (E rfl rfl)) ?_
  refine AWL.callK rfl rfl (B rfl) rfl ce_58 (E rfl rfl) (evsC (E rfl rfl) (evsC (E rfl rfl) evs0)) (S1 := S0) (S2 := []) (List.append_nil S0).symm (IndexFunc58 l f q S0 p hb hce hF) (fun t S h => h) ?_
  refine AWL.y rfl rfl (B rfl) (Yv.geq rfl (E rfl rfl) (E rfl rfl)) ?_
  refine AWL.y rfl rfl (B rfl) (Yv.assign rfl (E rfl rfl)) ?_
  refine AWL.nil ?_
  refine AW.ret (retI (.tmp rfl .nil) ?_)
  refine ⟨?_, rfl⟩
  show T.v (.bool _) = T.v (.bool _)
  rw [ixF_geq]

set_option maxHeartbeats 400000 in
theorem Check35 (r : RefV) (g : Graph) (hgr : GraphOk 1099511627 g) (b : Nat) :
    ACalls Try.prog 35 [.agg (refCells r), .v (vp b)] [.box b 27 (gCells g)] (fun t_ S => t_ = .v (.bool (!fitsF r g.things.length)) ∧ S = [.box b 27 (gCells g)]) := by
  have hb1 := hgr.tl
  refine ACalls.intro Try.func35 rfl Try.ntmps35 (Nat.le_of_ble_eq_true rfl) rfl fun X w0 => ?_
  refine AW.rseq ?_
  refine AWL.boxOp rfl rfl (B rfl) rfl (E rfl rfl) rfl (fun b2 => ?_)
  refine AWL.y rfl rfl (B rfl) (Yv.assign rfl (E rfl rfl)) ?_
  refine AWL.nil ?_
  refine AW.rseq ?_
  refine AWL.y rfl rfl (B rfl) (Yv.loadBoxA rfl ag_54 (i := 1) rfl (E rfl rfl) rfl rfl) ?_
  refine AWL.y rfl rfl (B rfl) (Yv.fieldBox rfl fo_27_0 (E rfl rfl)) ?_
  refine AWL.y rfl rfl (B rfl) (Yv.loadBox rfl ag_25 (i := 0) rfl (E rfl rfl) rfl) ?_
  refine AWL.y rfl rfl (B rfl) (Yv.lenSl rfl so_25 (B rfl) (E rfl rfl) len_things) ?_
  refine AWL.callP rfl rfl (B rfl) rfl ce_36 (E rfl rfl) (evsC (E rfl rfl) (evsC (E rfl rfl) evs0)) (fits36 r g.things.length) (fun t S h => h) ?_
  refine AWL.y rfl rfl (B rfl) (Yv.not rfl (E rfl rfl)) ?_
  refine AWL.y rfl rfl (B rfl) (Yv.assign rfl (E rfl rfl)) ?_
  refine AWL.nil ?_
  refine AW.dropAt 1 ?_
  refine AW.ret (retI (.tmp rfl .nil) ?_)
  exact ⟨rfl, rfl⟩

set_option maxHeartbeats 400000 in
theorem Check13 (g : Graph) (hgr : GraphOk 1099511627 g) :
    ACalls Try.prog 13 [graphT g] [] fun t_ S => t_ = .v (.int .i64 (checkF g)) := by
  have hb1 := hgr.tl
  have hb2 := hgr.rl
  refine ACalls.intro Try.func13 rfl Try.ntmps13 (Nat.le_of_ble_eq_true rfl) rfl fun X w0 => ?_
  refine AW.rseq ?_
  refine AWL.boxOp rfl rfl (B rfl) rfl (E rfl rfl) rfl (fun b1 => ?_)
  refine AWL.y rfl rfl (B rfl) (Yv.assign rfl (E rfl rfl)) ?_
  refine AWL.nil ?_
  refine AW.rseq ?_
  refine AWL.y rfl rfl (B rfl) (Yv.makeFunc rfl evs0 rfl (evsC (E rfl rfl) evs0) rfl) ?_
  refine AWL.y rfl rfl (B rfl) (Yv.assign rfl (E rfl rfl)) ?_
  refine AWL.nil ?_
  refine AW.seq ?_
  refine AW.rseq ?_
  refine AWL.y rfl rfl (B rfl) (Yv.fieldBox rfl fo_27_1 (E rfl rfl)) ?_
  refine AWL.y rfl rfl (B rfl) (Yv.loadBox rfl ag_22 (i := 0) rfl (E rfl rfl) rfl) ?_
  refine AWL.y rfl rfl (B rfl) (Yv.move rfl (E rfl rfl)) ?_
  refine AWL.callK rfl rfl (B rfl) rfl ce_37 (E rfl rfl) (evsC (E rfl rfl) (evsC (E rfl rfl) evs0)) (S1 := [.box b1 27 (gCells g)]) (S2 := []) rfl ((ContainsFunc37 g.roots 35 (vp b1) [.box b1 27 (gCells g)] (fun r => !fitsF r g.things.length) (by omega) ce_35 (fun r _ => Check35 r g hgr b1))) (fun t S h => h) ?_
  refine AWL.nil ?_
  refine AW.cond rfl (fun h0t => ?_) (fun h0f => ?_)
  ·
    try replace h0t := of_decide_eq_true h0t
    refine AW.rseq ?_
    refine AWL.y rfl rfl (B rfl) (Yv.assign rfl (E rfl rfl)) ?_
    refine AWL.nil ?_
    refine AW.ret (retI (.tmp rfl .nil) ?_)
    show T.v (.int .i64 _) = T.v (.int .i64 _)
    rw [check_bad (.inl h0t)]
  ·
    try replace h0f := of_decide_eq_false h0f
    refine AW.skip ?_
    refine AW.seq ?_
    refine AW.rseq ?_
    refine AWL.y rfl rfl (B rfl) (Yv.fieldBox rfl fo_27_0 (E rfl rfl)) ?_
    refine AWL.y rfl rfl (B rfl) (Yv.loadBox rfl ag_25 (i := 0) rfl (E rfl rfl) rfl) ?_
    refine AWL.y rfl rfl (B rfl) (Yv.lenSl rfl so_25 (B rfl) (E rfl rfl) len_things) ?_
    refine AWL.y rfl rfl (B rfl) (Yv.move rfl (E rfl rfl)) ?_
    refine AWL.nil ?_
    refine AW.block ?_
    refine AW.loop (fun (j : Nat) => [(1, true, .v (vp b1)), (3, true, .v (.func (.func 35) #[] #[vp b1])), (12, true, .sl 4 (g.things.flatMap thingCells)), (13, true, .v (.int .i64 (g.things.length : Int))), (14, true, .v (.int .i64 (j : Int)))]) (fun (j : Nat) => [.box b1 27 (gCells g)]) (fun (j : Nat) => j ≤ g.things.length ∧ ∀ i, i < j → goodT g (g.things.getD i default) = true) (fun (j : Nat) => g.things.length - j) 0 ?_ ?_ ?_ ?_
    · exact ⟨Nat.zero_le _, fun i hi => by omega⟩
    · exact (Sub.cons rfl rfl (Sub.cons rfl rfl (Sub.cons rfl rfl (Sub.cons rfl rfl (Sub.cons rfl rfl Sub.nil)))))
    · rfl
    ·
      intro j hinv
      obtain ⟨hj, hn⟩ := hinv
      refine AW.rseq ?_
      refine AWL.y rfl rfl (B rfl) (Yv.lss rfl (E rfl rfl) (E rfl rfl)) ?_
      refine AWL.nil ?_
      refine AW.seq ?_
      refine AW.cond rfl (fun h1t => ?_) (fun h1f => ?_)
      ·
        try replace h1t := of_decide_eq_true h1t
        have htj : ThingOk 1099511627 (g.things.getD j default) := hgr.ts _ (getD_mem' (by omega))
        have hb3 := htj.rl
        refine AW.skip ?_
        refine AW.seq ?_
        refine AW.block ?_
        refine AW.rseq ?_
        refine AWL.y rfl rfl (B rfl) (Yv.indexSl rfl ss_25 (B rfl) (E rfl rfl) (E rfl rfl) (fun hg => ⟨rfl, (by first | omega | (simp only [len_refs, len_things, len_u8s]; omega))⟩)) ?_
        refine AWL.y rfl rfl (B rfl) (Yv.loadRpA rfl ag_24 (E rfl rfl) (fun hg => thing_get (by omega))) ?_
        refine AWL.allocOp rfl rfl (B rfl) rfl zc_24 (fun b5 => ?_)
        refine AWL.storeBox (i := 1) rfl rfl rfl ag_24 rfl (E rfl rfl) (E rfl rfl) rfl rfl (Nat.le_of_ble_eq_true rfl) ?_
        refine AWL.nil ?_
        refine AW.rseq ?_
        refine AWL.y rfl rfl (B rfl) (Yv.loadBoxA rfl ag_24 (i := 1) rfl (E rfl rfl) rfl rfl) ?_
        refine AWL.callP rfl rfl (B rfl) rfl ce_29 (E rfl rfl) (evsC (E rfl rfl) evs0) (made29 (g.things.getD j default) htj) (fun t S h => h) ?_
        refine AWL.y rfl rfl (B rfl) (Yv.not rfl (E rfl rfl)) ?_
        refine AWL.y rfl rfl (B rfl) (Yv.move rfl (E rfl rfl)) ?_
        refine AWL.ygF rfl rfl rfl rfl (B rfl) (Yv.fieldBox rfl fo_24_3 (E rfl rfl)) ?_
        refine AWL.ygF rfl rfl rfl rfl (B rfl) (Yv.loadBox rfl ag_22 (i := 1) rfl (Eg rfl rfl id) rfl) ?_
        refine AWL.ygF rfl rfl rfl rfl (B rfl) (Yv.move rfl (E rfl rfl)) ?_
        refine AWL.callKgF rfl rfl rfl rfl (B rfl) rfl ce_37 (E rfl rfl) (evsC (Eg rfl rfl id) (evsC (Eg rfl rfl id) evs0)) (S1 := [.box b1 27 (gCells g)]) (S2 := [_]) rfl (fun hg => (ContainsFunc37 (g.things.getD j default).refs 35 (vp b1) [.box b1 27 (gCells g)] (fun r => !fitsF r g.things.length) (by omega) ce_35 (fun r _ => Check35 r g hgr b1))) (fun t S h => h) ?_
        refine AWL.y rfl rfl (B rfl) (Yv.pickOr (t := .const (.bool true)) rfl (E rfl rfl) (Eg rfl rfl id)) ?_
        refine AWL.nil ?_
        refine AW.cond rfl (fun h2t => ?_) (fun h2f => ?_)
        ·
          try replace h2t := of_decide_eq_true h2t
          refine AW.rseq ?_
          refine AWL.y rfl rfl (B rfl) (Yv.assign rfl (E rfl rfl)) ?_
          refine AWL.nil ?_
          refine AW.ret (retI (.tmp rfl .nil) ?_)
          show T.v (.int .i64 _) = T.v (.int .i64 _)
          rw [check_bad (.inr ⟨_, getD_mem' (by omega), goodT_false h2t⟩)]
        ·
          try replace h2f := of_decide_eq_false h2f
          refine AW.skip ?_
          refine AW.dropAt 1 ?_
          refine AW.region ?_
          refine AWL.y rfl rfl (B rfl) (Yv.addN_i64 rfl (E rfl rfl) (E rfl rfl) (fun hg => by omega)) ?_
          refine AWL.y rfl rfl (B rfl) (Yv.move rfl (E rfl rfl)) ?_
          refine AWL.nil ?_
          refine ⟨j + 1, ⟨by omega, fun i hi => ?_⟩, by omega, Sub.cons rfl rfl (Sub.cons rfl rfl (Sub.cons rfl rfl (Sub.cons rfl rfl (Sub.cons rfl (by simp) Sub.nil)))), rfl⟩
          rcases Nat.lt_or_ge i j with h | h
          · exact hn i h
          · rw [show i = j by omega]; exact goodT_true h2f
      ·
        try replace h1f := of_decide_eq_false h1f
        refine AW.exit ?_
        refine AW.rseq ?_
        refine AWL.y rfl rfl (B rfl) (Yv.assign rfl (E rfl rfl)) ?_
        refine AWL.nil ?_
        refine AW.ret (retI (.tmp rfl .nil) ?_)
        show T.v (.int .i64 _) = T.v (.int .i64 _)
        rw [check_ok h0f (fun i hi => hn i (by omega))]

end Go.Proofs.Ytbndnmmceccbkaa
