/-
  CONTRACTS of known; walked by program.
-/
import Derived.Test.YtjndpakhmgapjaaDoorWk21
import Derived.Test.YtjndpakhmgapjaaDoorText
namespace Go.Proofs.YtjndpakhmgapjaaDoor
open Go Go.RowKit
set_option linter.unusedVariables false
set_option linter.unnecessarySimpa false
set_option linter.unusedSimpArgs false

set_option maxHeartbeats 400000 in
theorem small68 (n : Int) (h0 : 0 ≤ n) (h1 : n < 100) :
    ACalls Tryd.prog 68 [.v (.int .i64 n)] [] (fun t_ S => t_ = sv (smallT n)) := by
  have hd : digitsL.length = 36 := rfl
  have hp : pairsL.length = 200 := rfl
  refine ACalls.intro Tryd.func68 rfl Tryd.ntmps68 (Nat.le_of_ble_eq_true rfl) rfl fun X w0 => ?_
  refine AW.rseq ?_
  refine AWL.y rfl rfl (B rfl) (Yv.assign rfl (E rfl rfl)) ?_
  refine AWL.nil ?_
  refine AW.seq ?_
  refine AW.rseq ?_
  refine AWL.y rfl rfl (B rfl) (Yv.move rfl (E rfl rfl)) ?_
  refine AWL.y rfl rfl (B rfl) (Yv.lss rfl (E rfl rfl) (E rfl rfl)) ?_
  refine AWL.nil ?_
  refine AW.cond rfl (fun h0t => ?_) (fun h0f => ?_)
  ·
   try replace h0t := of_decide_eq_true h0t
   refine AW.rseq ?_
   refine AWL.y rfl rfl (B rfl) (Yv.move rfl (E rfl rfl)) ?_
   refine AWL.y rfl rfl (B rfl) (Yv.move rfl (E rfl rfl)) ?_
   refine AWL.y rfl rfl (B rfl) (Yv.addN_i64 rfl (E rfl rfl) (E rfl rfl) (fun hg => by omega)) ?_
   refine AWL.y rfl rfl (B rfl) (Yv.sliceL (s := digitsL) rfl st_9 (E rfl rfl) (Bound.some_ (E rfl rfl) (fun hg => (Int.toNat_of_nonneg (by omega)).symm)) (Bound.some_ (E rfl rfl) (fun hg => (Int.toNat_of_nonneg (by omega)).symm)) (fun hg => ⟨by omega, by omega⟩)) ?_
   refine AWL.y rfl rfl (B rfl) (Yv.assign rfl (E rfl rfl)) ?_
   refine AWL.nil ?_
   refine AW.ret (retI (.tmp rfl .nil) ?_)
   rw [smallT, if_pos h0t]
   rfl
  try replace h0f := of_decide_eq_false h0f
  refine AW.skip ?_
  refine AW.rseq ?_
  refine AWL.y rfl rfl (B rfl) (Yv.move rfl (E rfl rfl)) ?_
  refine AWL.y rfl rfl (B rfl) (Yv.mulN_i64 rfl (E rfl rfl) (E rfl rfl) (fun hg => by omega)) ?_
  refine AWL.y rfl rfl (B rfl) (Yv.move rfl (E rfl rfl)) ?_
  refine AWL.y rfl rfl (B rfl) (Yv.mulN_i64 rfl (E rfl rfl) (E rfl rfl) (fun hg => by omega)) ?_
  refine AWL.y rfl rfl (B rfl) (Yv.addN_i64 rfl (E rfl rfl) (E rfl rfl) (fun hg => by omega)) ?_
  refine AWL.y rfl rfl (B rfl) (Yv.sliceL (s := pairsL) rfl st_9 (E rfl rfl) (Bound.some_ (E rfl rfl) (fun hg => (Int.toNat_of_nonneg (by omega)).symm)) (Bound.some_ (E rfl rfl) (fun hg => (Int.toNat_of_nonneg (by omega)).symm)) (fun hg => ⟨by omega, by omega⟩)) ?_
  refine AWL.y rfl rfl (B rfl) (Yv.assign rfl (E rfl rfl)) ?_
  refine AWL.nil ?_
  refine AW.ret (retI (.tmp rfl .nil) ?_)
  rw [smallT, if_neg h0f]
  rfl

set_option maxHeartbeats 400000 in
theorem formatInt56 (n : Int) (h0 : 0 ≤ n) (h1 : n < 100) :
    ACalls Tryd.prog 56 [.v (.int .i64 n), .v (.int .i64 10)] [] (fun t_ S => t_ = sv (smallT n)) := by
  refine ACalls.intro Tryd.func56 rfl Tryd.ntmps56 (Nat.le_of_ble_eq_true rfl) rfl fun X w0 => ?_
  refine AW.rseq ?_
  refine AWL.y rfl rfl (B rfl) (Yv.assign rfl (E rfl rfl)) ?_
  refine AWL.nil ?_
  refine AW.seq ?_
  refine AW.rseq ?_
  refine AWL.y rfl rfl (B rfl) (Yv.move rfl (E rfl rfl)) ?_
  refine AWL.y rfl rfl (B rfl) (Yv.eql rfl (E rfl rfl) (E rfl rfl)) ?_
  refine AWL.nil ?_
  refine AW.cond rfl (fun h0t => ?_) (fun h0f => ?_)
  ·
   try replace h0t := of_decide_eq_true h0t
   refine AW.seq ?_
   refine AW.rseq ?_
   refine AWL.y rfl rfl (B rfl) (Yv.move rfl (E rfl rfl)) ?_
   refine AWL.y rfl rfl (B rfl) (Yv.leq rfl (E rfl rfl) (E rfl rfl)) ?_
   refine AWL.y rfl rfl (B rfl) (Yv.move rfl (E rfl rfl)) ?_
   refine AWL.ygT rfl rfl rfl rfl (B rfl) (Yv.move rfl (E rfl rfl)) ?_
   refine AWL.ygT rfl rfl rfl rfl (B rfl) (Yv.lss rfl (Eg rfl rfl id) (E rfl rfl)) ?_
   refine AWL.y rfl rfl (B rfl) (Yv.pickAnd rfl (E rfl rfl) (Eg rfl rfl id)) ?_
   refine AWL.nil ?_
   refine AW.cond rfl (fun h1t => ?_) (fun h1f => ?_)
   ·
    try replace h1t := of_decide_eq_true h1t
    refine AW.rseq ?_
    refine AWL.y rfl rfl (B rfl) (Yv.move rfl (E rfl rfl)) ?_
    refine AWL.callP rfl rfl (B rfl) rfl ce_68 (E rfl rfl) (evsC (E rfl rfl) evs0) (small68 n h0 h1) (fun t S h => h) ?_
    refine AWL.y rfl rfl (B rfl) (Yv.assign rfl (E rfl rfl)) ?_
    refine AWL.nil ?_
    refine AW.ret (retI (.tmp rfl .nil) ?_)
    rfl
   try replace h1f := of_decide_eq_false h1f
   exfalso
   simp only [Bool.or_eq_true, Bool.and_eq_true, Bool.or_eq_false_iff, Bool.and_eq_false_iff, Bool.not_eq_true', Bool.not_eq_false', decide_eq_true_eq, decide_eq_false_iff_not, Decidable.not_not] at h1f
   omega
  try replace h0f := of_decide_eq_false h0f
  exact absurd h0f (by decide)

set_option maxHeartbeats 400000 in
theorem formatInt41 (n : Int) (h0 : 0 ≤ n) (h1 : n < 100) :
    ACalls Tryd.prog 41 [.v (.int .i64 n), .v (.int .i64 10)] [] (fun t_ S => t_ = sv (smallT n)) := by
  refine ACalls.intro Tryd.func41 rfl Tryd.ntmps41 (Nat.le_of_ble_eq_true rfl) rfl fun X w0 => ?_
  refine AW.rseq ?_
  refine AWL.y rfl rfl (B rfl) (Yv.assign rfl (E rfl rfl)) ?_
  refine AWL.nil ?_
  refine AW.rseq ?_
  refine AWL.y rfl rfl (B rfl) (Yv.move rfl (E rfl rfl)) ?_
  refine AWL.y rfl rfl (B rfl) (Yv.move rfl (E rfl rfl)) ?_
  refine AWL.callP rfl rfl (B rfl) rfl ce_56 (E rfl rfl) (evsC (E rfl rfl) (evsC (E rfl rfl) evs0)) (formatInt56 n h0 h1) (fun t S h => h) ?_
  refine AWL.y rfl rfl (B rfl) (Yv.assign rfl (E rfl rfl)) ?_
  refine AWL.nil ?_
  refine AW.ret (retI (.tmp rfl .nil) ?_)
  rfl

set_option maxRecDepth 2000 in
set_option maxHeartbeats 2000000 in
theorem word39 (k : Int) (h0 : 1 ≤ k) (h1 : k ≤ 52) :
    ACalls Tryd.prog 39 [.v (.int .i64 k)] [] (fun t_ S => t_ = sv (wordT k)) := by
  refine ACalls.intro Tryd.func39 rfl Tryd.ntmps39 (Nat.le_of_ble_eq_true rfl) rfl fun X w0 => ?_
  refine AW.rseq ?_
  refine AWL.y rfl rfl (B rfl) (Yv.assign rfl (E rfl rfl)) ?_
  refine AWL.nil ?_
  refine AW.rseq ?_
  refine AWL.buildSlice1 rfl rfl (B rfl) rfl el_81 rfl (evsC (E rfl rfl) (evsC (E rfl rfl) (evsC (E rfl rfl) (evsC (E rfl rfl) (evsC (E rfl rfl) (evsC (E rfl rfl) (evsC (E rfl rfl) (evsC (E rfl rfl) (evsC (E rfl rfl) (evsC (E rfl rfl) (evsC (E rfl rfl) (evsC (E rfl rfl) (evsC (E rfl rfl) (evsC (E rfl rfl) (evsC (E rfl rfl) (evsC (E rfl rfl) (evsC (E rfl rfl) (evsC (E rfl rfl) (evsC (E rfl rfl) (evsC (E rfl rfl) (evsC (E rfl rfl) (evsC (E rfl rfl) (evsC (E rfl rfl) (evsC (E rfl rfl) (evsC (E rfl rfl) (evsC (E rfl rfl) (evsC (E rfl rfl) (evsC (E rfl rfl) (evsC (E rfl rfl) (evsC (E rfl rfl) (evsC (E rfl rfl) (evsC (E rfl rfl) (evsC (E rfl rfl) (evsC (E rfl rfl) (evsC (E rfl rfl) (evsC (E rfl rfl) (evsC (E rfl rfl) (evsC (E rfl rfl) (evsC (E rfl rfl) (evsC (E rfl rfl) (evsC (E rfl rfl) (evsC (E rfl rfl) (evsC (E rfl rfl) (evsC (E rfl rfl) (evsC (E rfl rfl) (evsC (E rfl rfl) (evsC (E rfl rfl) (evsC (E rfl rfl) (evsC (E rfl rfl) (evsC (E rfl rfl) (evsC (E rfl rfl) (evsC (E rfl rfl) evs0)))))))))))))))))))))))))))))))))))))))))))))))))))) (Nat.le_of_ble_eq_true rfl) rfl rfl ?_
  refine AWL.y rfl rfl (B rfl) (Yv.assign rfl (E rfl rfl)) ?_
  refine AWL.nil ?_
  refine AW.rseq ?_
  refine AWL.y rfl rfl (B rfl) (Yv.move rfl (E rfl rfl)) ?_
  refine AWL.y rfl rfl (B rfl) (Yv.move rfl (E rfl rfl)) ?_
  refine AWL.y rfl rfl (B rfl) (Yv.subN_i64 rfl (E rfl rfl) (E rfl rfl) (fun hg => by omega)) ?_
  refine AWL.y rfl rfl (B rfl) (Yv.indexSl (j := (k.toNat - 1)) rfl ss_81 (B rfl) (E rfl rfl) (E rfl rfl) (fun hg => ⟨by omega, by show (k.toNat - 1) * 1 < 52; omega⟩)) ?_
  refine AWL.y rfl rfl (B rfl) (Yv.loadRp rfl ag_9 (E rfl rfl) (fun hg => word_get (by omega))) ?_
  refine AWL.y rfl rfl (B rfl) (Yv.assign rfl (E rfl rfl)) ?_
  refine AWL.nil ?_
  refine AW.ret (retI (.tmp rfl .nil) ?_)
  rfl

set_option maxHeartbeats 400000 in
theorem put40 (has n f : Int) (s : List UInt8) (b3 b5 : Nat) (hn : putOn f has = true → 0 ≤ n ∧ n < 100) (hl : s.length ≤ 1000) :
    ACalls Tryd.prog 40 [.v (.int .i64 has), .v (.int .i64 n), .v (.pointer (some ⟨b3, 0, none⟩)), .v (.pointer (some ⟨b5, 0, none⟩))] [.box b3 3 [.v (.int .i64 f)], .box b5 9 [sv s]] (fun t_ S => S = [.box b3 3 [.v (.int .i64 f)], .box b5 9 [sv (putT f has n s)]]) := by
  refine ACalls.intro Tryd.func40 rfl Tryd.ntmps40 (Nat.le_of_ble_eq_true rfl) rfl fun X w0 => ?_
  refine AW.rseq ?_
  refine AWL.y rfl rfl (B rfl) (Yv.loadBox rfl ag_3 (i := 0) rfl (E rfl rfl) rfl) ?_
  refine AWL.y rfl rfl (B rfl) (Yv.move rfl (E rfl rfl)) ?_
  refine AWL.y rfl rfl (B rfl) (Yv.bits rfl rfl (E rfl rfl) (E rfl rfl)) ?_
  refine AWL.y rfl rfl (B rfl) (Yv.neq rfl (E rfl rfl) (E rfl rfl)) ?_
  refine AWL.nil ?_
  refine AW.cond rfl (fun h0t => ?_) (fun h0f => ?_)
  ·
   try replace h0t := of_decide_eq_true h0t
   have hn2 := hn h0t
   have hsl := small_len n
   refine AW.regionP rfl ?_
   refine AWP.take (i := 1) rfl (by kernel_rfl) (by kernel_rfl) (by kernel_rfl) rfl rfl (B rfl) (freeMove rfl (E rfl rfl)) ?_
   refine AWP.two (i := 0) (j := 2) (by kernel_rfl) rfl rfl ?_ ?_
   ·
    refine AWL.y rfl rfl (B rfl) (Yv.loadBox rfl ag_9 (i := 1) rfl (E rfl rfl) rfl) ?_
    refine AWL.nil ?_
    refine AWP.one (i := 2) (by kernel_rfl) rfl ?_
    refine AWL.callP rfl rfl (B rfl) rfl ce_41 (E rfl rfl) (evsC (E rfl rfl) (evsC (E rfl rfl) evs0)) (formatInt41 n hn2.1 hn2.2) (fun t S h => h) ?_
    refine AWL.nil ?_
    refine AWP.one (i := 3) (by kernel_rfl) rfl ?_
    refine AWL.y rfl rfl (B rfl) (Yv.addL rfl (E rfl rfl) (E rfl rfl) (fun hg => by first | omega | (simp only [List.length_append, List.length_cons, List.length_nil]; omega))) ?_
    refine AWL.nil ?_
    refine AWP.one (i := 4) (by kernel_rfl) rfl ?_
    refine AWL.y rfl rfl (B rfl) (Yv.addL rfl (E rfl rfl) (E rfl rfl) (fun hg => by first | omega | (simp only [List.length_append, List.length_cons, List.length_nil]; omega))) ?_
    refine AWL.nil ?_
    refine AWP.one (i := 5) (by kernel_rfl) rfl ?_
    refine AWL.storeBox (i := 1) rfl rfl rfl ag_9 rfl (E rfl rfl) (E rfl rfl) rfl rfl (Nat.le_of_ble_eq_true rfl) ?_
    refine AWL.nil ?_
    refine AWP.done (by kernel_rfl) ?_
    refine retN .nil ?_
    (rw [putT, if_pos (show putOn f has = true from h0t)]; rfl)
   ·
    refine AWL.callP rfl rfl (B rfl) rfl ce_41 (E rfl rfl) (evsC (E rfl rfl) (evsC (E rfl rfl) evs0)) (formatInt41 n hn2.1 hn2.2) (fun t S h => h) ?_
    refine AWL.nil ?_
    refine AWP.two (i := 0) (j := 3) (by kernel_rfl) rfl rfl ?_ ?_
    ·
     refine AWL.y rfl rfl (B rfl) (Yv.loadBox rfl ag_9 (i := 1) rfl (E rfl rfl) rfl) ?_
     refine AWL.nil ?_
     refine AWP.one (i := 3) (by kernel_rfl) rfl ?_
     refine AWL.y rfl rfl (B rfl) (Yv.addL rfl (E rfl rfl) (E rfl rfl) (fun hg => by first | omega | (simp only [List.length_append, List.length_cons, List.length_nil]; omega))) ?_
     refine AWL.nil ?_
     refine AWP.one (i := 4) (by kernel_rfl) rfl ?_
     refine AWL.y rfl rfl (B rfl) (Yv.addL rfl (E rfl rfl) (E rfl rfl) (fun hg => by first | omega | (simp only [List.length_append, List.length_cons, List.length_nil]; omega))) ?_
     refine AWL.nil ?_
     refine AWP.one (i := 5) (by kernel_rfl) rfl ?_
     refine AWL.storeBox (i := 1) rfl rfl rfl ag_9 rfl (E rfl rfl) (E rfl rfl) rfl rfl (Nat.le_of_ble_eq_true rfl) ?_
     refine AWL.nil ?_
     refine AWP.done (by kernel_rfl) ?_
     refine retN .nil ?_
     (rw [putT, if_pos (show putOn f has = true from h0t)]; rfl)
    ·
     refine AWL.y rfl rfl (B rfl) (Yv.addL rfl (E rfl rfl) (E rfl rfl) (fun hg => by first | omega | (simp only [List.length_append, List.length_cons, List.length_nil]; omega))) ?_
     refine AWL.nil ?_
     refine AWP.one (i := 0) (by kernel_rfl) rfl ?_
     refine AWL.y rfl rfl (B rfl) (Yv.loadBox rfl ag_9 (i := 1) rfl (E rfl rfl) rfl) ?_
     refine AWL.nil ?_
     refine AWP.one (i := 4) (by kernel_rfl) rfl ?_
     refine AWL.y rfl rfl (B rfl) (Yv.addL rfl (E rfl rfl) (E rfl rfl) (fun hg => by first | omega | (simp only [List.length_append, List.length_cons, List.length_nil]; omega))) ?_
     refine AWL.nil ?_
     refine AWP.one (i := 5) (by kernel_rfl) rfl ?_
     refine AWL.storeBox (i := 1) rfl rfl rfl ag_9 rfl (E rfl rfl) (E rfl rfl) rfl rfl (Nat.le_of_ble_eq_true rfl) ?_
     refine AWL.nil ?_
     refine AWP.done (by kernel_rfl) ?_
     refine retN .nil ?_
     (rw [putT, if_pos (show putOn f has = true from h0t)]; rfl)
  try replace h0f := of_decide_eq_false h0f
  refine AW.skip ?_
  refine retN .nil ?_
  (rw [putT, if_neg (show ¬ putOn f has = true from ne_true_of_eq_false h0f)])

set_option maxHeartbeats 1000000 in
theorem text14  :
    ACalls Tryd.prog 14 [insT ik0] [] (fun t_ S => t_ = sv [112, 117, 115, 104, 32, 49, 53]) := by
  refine ACalls.intro Tryd.func14 rfl Tryd.ntmps14 (Nat.le_of_ble_eq_true rfl) rfl fun X w0 => ?_
  refine AW.rseq ?_
  refine AWL.boxOp rfl rfl (B rfl) rfl (E rfl rfl) rfl (fun b1 => ?_)
  refine AWL.y rfl rfl (B rfl) (Yv.assign rfl (E rfl rfl)) ?_
  refine AWL.nil ?_
  refine AW.seq ?_
  refine AW.rseq ?_
  refine AWL.y rfl rfl (B rfl) (Yv.loadBoxA rfl ag_23 (i := 0) rfl (E rfl rfl) rfl rfl) ?_
  refine AWL.callP rfl rfl (B rfl) rfl ce_12 (E rfl rfl) (evsC (E rfl rfl) evs0) (valid27 ik0) (fun t S h => h) ?_
  refine AWL.y rfl rfl (B rfl) (Yv.not rfl (E rfl rfl)) ?_
  refine AWL.nil ?_
  refine AW.cond rfl (fun h0t => ?_) (fun h0f => ?_)
  ·
   try replace h0t := of_decide_eq_true h0t
   rw [kv0] at h0t
   cases h0t
  try replace h0f := of_decide_eq_false h0f
  refine AW.skip ?_
  refine AW.rseq ?_
  refine AWL.y rfl rfl (B rfl) (Yv.fieldBox rfl fo_23_0 (E rfl rfl)) ?_
  refine AWL.y rfl rfl (B rfl) (Yv.loadBox rfl ag_3 (i := 0) rfl (E rfl rfl) rfl) ?_
  refine AWL.callT rfl rfl (B rfl) rfl ce_35 (E rfl rfl) (evsC (E rfl rfl) evs0) (fields46 41) ?_
  rintro t13 S13 rfl
  rw [kf0]
  refine AWL.y rfl rfl (B rfl) (Yv.move rfl (E rfl rfl)) ?_
  refine AWL.y rfl rfl (B rfl) (Yv.extract rfl (E rfl rfl) rfl) ?_
  refine AWL.y rfl rfl (B rfl) (Yv.extract rfl (E rfl rfl) rfl) ?_
  refine AWL.allocOp rfl rfl (B rfl) rfl zc_3 (fun b3 => ?_)
  refine AWL.storeBox (i := 1) rfl rfl rfl ag_3 rfl (E rfl rfl) (E rfl rfl) rfl rfl (Nat.le_of_ble_eq_true rfl) ?_
  refine AWL.y rfl rfl (B rfl) (Yv.assign rfl (E rfl rfl)) ?_
  refine AWL.nil ?_
  refine AW.rseq ?_
  refine AWL.y rfl rfl (B rfl) (Yv.fieldBox rfl fo_23_0 (E rfl rfl)) ?_
  refine AWL.y rfl rfl (B rfl) (Yv.loadBox rfl ag_3 (i := 0) rfl (E rfl rfl) rfl) ?_
  refine AWL.callP rfl rfl (B rfl) rfl ce_39 (E rfl rfl) (evsC (E rfl rfl) evs0) (word39 41 (by decide) (by decide)) (fun t S h => h) ?_
  refine AWL.allocOp rfl rfl (B rfl) rfl zc_9 (fun b5 => ?_)
  refine AWL.storeBox (i := 2) rfl rfl rfl ag_9 rfl (E rfl rfl) (E rfl rfl) rfl rfl (Nat.le_of_ble_eq_true rfl) ?_
  refine AWL.nil ?_
  refine AW.rseq ?_
  refine AWL.y rfl rfl (B rfl) (Yv.makeFunc rfl evs0 rfl (evsC (E rfl rfl) (evsC (E rfl rfl) evs0)) rfl) ?_
  refine AWL.y rfl rfl (B rfl) (Yv.assign rfl (E rfl rfl)) ?_
  refine AWL.nil ?_
  refine AW.perm (S' := [Ent.box b3 3 [T.v (.int .i64 1)], Ent.box b5 9 [sv (wordT 41)]] ++ [.box b1 23 (insCells ik0)]) (List.perm_append_comm (l₁ := [_, _]) (l₂ := [_])) ?_
  refine AW.rseq ?_
  refine AWL.y rfl rfl (B rfl) (Yv.move rfl (E rfl rfl)) ?_
  refine AWL.y rfl rfl (B rfl) (Yv.fieldBox rfl fo_23_1 (E rfl rfl)) ?_
  refine AWL.y rfl rfl (B rfl) (Yv.loadBox rfl ag_3 (i := 2) rfl (E rfl rfl) rfl) ?_
  refine AWL.call rfl rfl (B rfl) rfl ce_40 (E rfl rfl) (evsC (E rfl rfl) (evsC (E rfl rfl) evs0)) (S1 := [Ent.box b3 3 [T.v (.int .i64 1)], Ent.box b5 9 [sv ((wordT 41))]]) (S2 := _) rfl (put40 1 15 1 (wordT 41) b3 b5 (by decide) (by decide +kernel)) ?_
  rintro t23 S23 rfl
  refine AWL.nil ?_
  refine AW.rseq ?_
  refine AWL.y rfl rfl (B rfl) (Yv.move rfl (E rfl rfl)) ?_
  refine AWL.y rfl rfl (B rfl) (Yv.fieldBox rfl fo_23_2 (E rfl rfl)) ?_
  refine AWL.y rfl rfl (B rfl) (Yv.loadBox rfl ag_3 (i := 2) rfl (E rfl rfl) rfl) ?_
  refine AWL.call rfl rfl (B rfl) rfl ce_40 (E rfl rfl) (evsC (E rfl rfl) (evsC (E rfl rfl) evs0)) (S1 := [Ent.box b3 3 [T.v (.int .i64 1)], Ent.box b5 9 [sv ((putT 1 1 15 (wordT 41)))]]) (S2 := _) rfl (put40 2 0 1 (putT 1 1 15 (wordT 41)) b3 b5 (by decide) (by decide +kernel)) ?_
  rintro t27 S27 rfl
  refine AWL.nil ?_
  refine AW.rseq ?_
  refine AWL.y rfl rfl (B rfl) (Yv.move rfl (E rfl rfl)) ?_
  refine AWL.y rfl rfl (B rfl) (Yv.fieldBox rfl fo_23_5 (E rfl rfl)) ?_
  refine AWL.y rfl rfl (B rfl) (Yv.loadBox rfl ag_2 (i := 2) rfl (E rfl rfl) rfl) ?_
  refine AWL.call rfl rfl (B rfl) rfl ce_40 (E rfl rfl) (evsC (E rfl rfl) (evsC (E rfl rfl) evs0)) (S1 := [Ent.box b3 3 [T.v (.int .i64 1)], Ent.box b5 9 [sv ((putT 1 2 0 (putT 1 1 15 (wordT 41))))]]) (S2 := _) rfl (put40 4 0 1 (putT 1 2 0 (putT 1 1 15 (wordT 41))) b3 b5 (by decide) (by decide +kernel)) ?_
  rintro t31 S31 rfl
  refine AWL.nil ?_
  refine AW.rseq ?_
  refine AWL.y rfl rfl (B rfl) (Yv.move rfl (E rfl rfl)) ?_
  refine AWL.y rfl rfl (B rfl) (Yv.fieldBox rfl fo_23_3 (E rfl rfl)) ?_
  refine AWL.y rfl rfl (B rfl) (Yv.loadBox rfl ag_3 (i := 2) rfl (E rfl rfl) rfl) ?_
  refine AWL.call rfl rfl (B rfl) rfl ce_40 (E rfl rfl) (evsC (E rfl rfl) (evsC (E rfl rfl) evs0)) (S1 := [Ent.box b3 3 [T.v (.int .i64 1)], Ent.box b5 9 [sv ((putT 1 4 0 (putT 1 2 0 (putT 1 1 15 (wordT 41)))))]]) (S2 := _) rfl (put40 8 0 1 (putT 1 4 0 (putT 1 2 0 (putT 1 1 15 (wordT 41)))) b3 b5 (by decide) (by decide +kernel)) ?_
  rintro t35 S35 rfl
  refine AWL.nil ?_
  refine AW.rseq ?_
  refine AWL.y rfl rfl (B rfl) (Yv.move rfl (E rfl rfl)) ?_
  refine AWL.y rfl rfl (B rfl) (Yv.fieldBox rfl fo_23_4 (E rfl rfl)) ?_
  refine AWL.y rfl rfl (B rfl) (Yv.loadBox rfl ag_3 (i := 2) rfl (E rfl rfl) rfl) ?_
  refine AWL.call rfl rfl (B rfl) rfl ce_40 (E rfl rfl) (evsC (E rfl rfl) (evsC (E rfl rfl) evs0)) (S1 := [Ent.box b3 3 [T.v (.int .i64 1)], Ent.box b5 9 [sv ((putT 1 8 0 (putT 1 4 0 (putT 1 2 0 (putT 1 1 15 (wordT 41))))))]]) (S2 := _) rfl (put40 16 0 1 (putT 1 8 0 (putT 1 4 0 (putT 1 2 0 (putT 1 1 15 (wordT 41))))) b3 b5 (by decide) (by decide +kernel)) ?_
  rintro t39 S39 rfl
  refine AWL.nil ?_
  refine AW.rseq ?_
  refine AWL.y rfl rfl (B rfl) (Yv.loadBox rfl ag_9 (i := 1) rfl (E rfl rfl) rfl) ?_
  refine AWL.y rfl rfl (B rfl) (Yv.assign rfl (E rfl rfl)) ?_
  refine AWL.nil ?_
  refine AW.ret (retI (.tmp rfl .nil) ?_)
  rw [kt0]
  rfl

set_option maxHeartbeats 1000000 in
theorem known16  :
    ACalls Tryd.prog 16 [] [] fun t_ S => t_ = .v (.bool true) := by
  refine ACalls.intro Tryd.func16 rfl Tryd.ntmps16 (Nat.le_of_ble_eq_true rfl) rfl fun X w0 => ?_
  refine AW.rseq ?_
  refine AWL.y rfl rfl (B rfl) (Yv.assign rfl (E rfl rfl)) ?_
  refine AWL.nil ?_
  refine AW.rseq ?_
  refine AWL.y rfl rfl (B rfl) (Yv.buildS rfl sh_23 (evpC (E rfl rfl) (evpC (E rfl rfl) (evpC (E rfl rfl) (evpC (E rfl rfl) (evpC (E rfl rfl) evp0))))) (fun _ => rfl)) ?_
  refine AWL.callT rfl rfl (B rfl) rfl ce_11 (E rfl rfl) (evsC (E rfl rfl) evs0) (encode19 ik1) ?_
  rintro t8 S8 rfl
  rw [if_pos kv1.1, kv1.2]
  refine AWL.y rfl rfl (B rfl) (Yv.move rfl (E rfl rfl)) ?_
  refine AWL.y rfl rfl (B rfl) (Yv.extract rfl (E rfl rfl) rfl) ?_
  refine AWL.y rfl rfl (B rfl) (Yv.extract rfl (E rfl rfl) rfl) ?_
  refine AWL.y rfl rfl (B rfl) (Yv.assign rfl (E rfl rfl)) ?_
  refine AWL.y rfl rfl (B rfl) (Yv.assign rfl (E rfl rfl)) ?_
  refine AWL.nil ?_
  refine AW.rseq ?_
  refine AWL.buildSlice1 rfl rfl (B rfl) rfl el_24 rfl (evsC (E rfl rfl) (evsC (E rfl rfl) (evsC (E rfl rfl) evs0))) (Nat.le_of_ble_eq_true rfl) rfl rfl ?_
  refine AWL.callT rfl rfl (B rfl) rfl ce_17 (E rfl rfl) (evsC (E rfl rfl) evs0) (Decode42 [65, 87, 0] (by decide)) ?_
  rintro t13 S13 rfl
  rw [kd0.1, kd0.2.1, kd0.2.2]
  refine AWL.y rfl rfl (B rfl) (Yv.move rfl (E rfl rfl)) ?_
  refine AWL.y rfl rfl (B rfl) (Yv.extract rfl (E rfl rfl) rfl) ?_
  refine AWL.y rfl rfl (B rfl) (Yv.extract rfl (E rfl rfl) rfl) ?_
  refine AWL.y rfl rfl (B rfl) (Yv.extract rfl (E rfl rfl) rfl) ?_
  refine AWL.allocOp rfl rfl (B rfl) rfl zc_23 (fun b3 => ?_)
  refine AWL.storeBox (i := 0) rfl rfl rfl ag_23 rfl (E rfl rfl) (E rfl rfl) rfl rfl (Nat.le_of_ble_eq_true rfl) ?_
  refine AWL.y rfl rfl (B rfl) (Yv.assign rfl (E rfl rfl)) ?_
  refine AWL.y rfl rfl (B rfl) (Yv.assign rfl (E rfl rfl)) ?_
  refine AWL.nil ?_
  refine AW.rseq ?_
  refine AWL.y rfl rfl (B rfl) (Yv.move rfl (E rfl rfl)) ?_
  refine AWL.y rfl rfl (B rfl) (Yv.eql rfl (E rfl rfl) (E rfl rfl)) ?_
  refine AWL.y rfl rfl (B rfl) (Yv.move rfl (E rfl rfl)) ?_
  refine AWL.ygT rfl rfl rfl rfl (B rfl) (Yv.move rfl (E rfl rfl)) ?_
  refine AWL.ygT rfl rfl rfl rfl (B rfl) (Yv.bytesStr rfl by_24 st_9 (Eg rfl rfl id)) ?_
  refine AWL.ygT rfl rfl rfl rfl (B rfl) (Yv.eqlL rfl (Eg rfl rfl id) (E rfl rfl)) ?_
  refine AWL.y rfl rfl (B rfl) (Yv.pickAnd rfl (E rfl rfl) (Eg rfl rfl id)) ?_
  refine AWL.y rfl rfl (B rfl) (Yv.move rfl (E rfl rfl)) ?_
  refine AWL.ygT rfl rfl rfl rfl (B rfl) (Yv.move rfl (E rfl rfl)) ?_
  refine AWL.ygT rfl rfl rfl rfl (B rfl) (Yv.eql rfl (Eg rfl rfl id) (E rfl rfl)) ?_
  refine AWL.y rfl rfl (B rfl) (Yv.pickAnd rfl (E rfl rfl) (Eg rfl rfl id)) ?_
  refine AWL.y rfl rfl (B rfl) (Yv.move rfl (E rfl rfl)) ?_
  refine AWL.ygT rfl rfl rfl rfl (B rfl) (Yv.move rfl (E rfl rfl)) ?_
  refine AWL.ygT rfl rfl rfl rfl (B rfl) (Yv.eql rfl (Eg rfl rfl id) (E rfl rfl)) ?_
  refine AWL.y rfl rfl (B rfl) (Yv.pickAnd rfl (E rfl rfl) (Eg rfl rfl id)) ?_
  refine AWL.y rfl rfl (B rfl) (Yv.move rfl (E rfl rfl)) ?_
  refine AWL.ygT rfl rfl rfl rfl (B rfl) (Yv.loadBoxA rfl ag_23 (i := 0) rfl (E rfl rfl) rfl rfl) ?_
  refine AWL.ygT rfl rfl rfl rfl (B rfl) (Yv.buildS rfl sh_23 (evpC (E rfl rfl) (evpC (E rfl rfl) evp0)) (fun _ => rfl)) ?_
  refine AWL.ygT rfl rfl rfl rfl (B rfl) (Yv.eqlA rfl fl_23 (Eg rfl rfl id) (Eg rfl rfl id) rfl rfl rfl) ?_
  refine AWL.y rfl rfl (B rfl) (Yv.pickAnd rfl (E rfl rfl) (Eg rfl rfl id)) ?_
  refine AWL.y rfl rfl (B rfl) (Yv.move rfl (E rfl rfl)) ?_
  refine AWL.ygT rfl rfl rfl rfl (B rfl) (Yv.loadBoxA rfl ag_23 (i := 0) rfl (E rfl rfl) rfl rfl) ?_
  refine AWL.callPgT rfl rfl rfl rfl (B rfl) rfl ce_12 (E rfl rfl) (evsC (Eg rfl rfl id) evs0) (fun hg => valid27 ik0) (fun t S h => h) ?_
  refine AWL.y rfl rfl (B rfl) (Yv.pickAnd rfl (E rfl rfl) (Eg rfl rfl id)) ?_
  refine AWL.y rfl rfl (B rfl) (Yv.move rfl (E rfl rfl)) ?_
  refine AWL.ygT rfl rfl rfl rfl (B rfl) (Yv.loadBoxA rfl ag_23 (i := 0) rfl (E rfl rfl) rfl rfl) ?_
  refine AWL.callPgT rfl rfl rfl rfl (B rfl) rfl ce_14 (E rfl rfl) (evsC (Eg rfl rfl id) evs0) (fun hg => text14) (fun t S h => h) ?_
  refine AWL.ygT rfl rfl rfl rfl (B rfl) (Yv.eqlL rfl (Eg rfl rfl id) (E rfl rfl)) ?_
  refine AWL.y rfl rfl (B rfl) (Yv.pickAnd rfl (E rfl rfl) (Eg rfl rfl id)) ?_
  refine AWL.y rfl rfl (B rfl) (Yv.assign rfl (E rfl rfl)) ?_
  refine AWL.nil ?_
  refine AW.ret (retI (.tmp rfl .nil) ?_)
  rw [kv0]
  rfl

end Go.Proofs.YtjndpakhmgapjaaDoor
