/-
  CONTRACTS of the x64 package: Decode; walked by program.
-/
import Derived.Test.YtjndpakhmgapjaaDoorWk20
namespace Go.Proofs.YtjndpakhmgapjaaDoor
open Go Go.RowKit
set_option linter.unusedVariables false
set_option linter.unnecessarySimpa false
set_option linter.unusedSimpArgs false

set_option maxHeartbeats 2000000 in
theorem real67 (b : Nat) (bs : List UInt8) (r : Rd) (hb : bs.length ≤ 1099511627776) (hr : RdOk bs r) (first : Int) :
    ACalls Tryd.prog 62 [.v (.pointer (some ⟨b, 0, none⟩)), .v (.int .i64 first)] [Ent.box b 68 (rdCells bs r)] (fun t_ S => t_ = insT (realR bs first r).1 ∧ ∃ E, S = Ent.box b 68 (rdCells bs (realR bs first r).2) :: E) := by
  obtain ⟨hx0, hx1⟩ := next_range bs r
  have hok1 : RdOk bs (realD1 bs r) := must_ok (next_ok hr) _
  have hok2 : RdOk bs (realD2 bs r) := must_ok (next_ok hok1) _
  have hok3 := next_ok hok2
  refine ACalls.intro Tryd.func62 rfl Tryd.ntmps62 (Nat.le_of_ble_eq_true rfl) rfl fun X w0 => ?_
  refine AW.rseq ?_
  refine AWL.allocOp rfl rfl (B rfl) rfl zc_23 (fun b4 => ?_)
  refine AWL.nil ?_
  refine AW.rseq ?_
  refine AWL.y rfl rfl (B rfl) (Yv.move rfl (E rfl rfl)) ?_
  refine AWL.call rfl rfl (B rfl) rfl ce_58 (E rfl rfl) (evsC (E rfl rfl) evs0) (S1 := [Ent.box b 68 (rdCells bs r)]) (S2 := _) rfl (next63 b bs r hb hr) ?_
  rintro t15 S15 ⟨rfl, rfl⟩
  refine AWL.y rfl rfl (B rfl) (Yv.assign rfl (E rfl rfl)) ?_
  refine AWL.nil ?_
  refine AW.seq ?_
  refine AW.rseq ?_
  refine AWL.y rfl rfl (B rfl) (Yv.move rfl (E rfl rfl)) ?_
  refine AWL.y rfl rfl (B rfl) (Yv.nilChk rfl (E rfl rfl)) ?_
  refine AWL.y rfl rfl (B rfl) (Yv.fieldBox rfl fo_68_2 (E rfl rfl)) ?_
  refine AWL.y rfl rfl (B rfl) (Yv.loadBox rfl ag_4 (i := 0) rfl (E rfl rfl) rfl) ?_
  refine AWL.nil ?_
  refine AW.cond rfl (fun h0t => ?_) (fun h0f => ?_)
  ·
   try replace h0t := of_decide_eq_true h0t
   refine AW.rseq ?_
   refine AWL.y rfl rfl (B rfl) (Yv.buildS rfl sh_23 evp0 (fun _ => rfl)) ?_
   refine AWL.storeBox (i := 1) rfl rfl rfl ag_23 rfl (E rfl rfl) (E rfl rfl) rfl rfl (Nat.le_of_ble_eq_true rfl) ?_
   refine AWL.nil ?_
   refine AW.ret (retI (.cellA (i := 1) rfl ag_23 rfl rfl rfl .nil) ?_)
   rw [realR, if_pos h0t]
   exact ⟨rfl, _, rfl⟩
  try replace h0f := of_decide_eq_false h0f
  refine AW.skip ?_
  refine AW.rseq ?_
  refine AWL.y rfl rfl (B rfl) (Yv.move rfl (E rfl rfl)) ?_
  refine AWL.y rfl rfl (B rfl) (Yv.move rfl (E rfl rfl)) ?_
  refine AWL.y rfl rfl (B rfl) (Yv.bits rfl rfl (E rfl rfl) (E rfl rfl)) ?_
  refine AWL.y rfl rfl (B rfl) (Yv.eql rfl (E rfl rfl) (E rfl rfl)) ?_
  refine AWL.call rfl rfl (B rfl) rfl ce_59 (E rfl rfl) (evsC (E rfl rfl) (evsC (E rfl rfl) evs0)) (S1 := [Ent.box b 68 (rdCells bs (nextF bs r).2)]) (S2 := _) rfl (must64 b bs (nextF bs r).2 (decide (andI (nextF bs r).1 242 = 64))) ?_
  rintro t25 S25 rfl
  refine AWL.nil ?_
  refine AW.rseq ?_
  refine AWL.y rfl rfl (B rfl) (Yv.move rfl (E rfl rfl)) ?_
  refine AWL.callT rfl rfl (B rfl) rfl ce_61 (E rfl rfl) (evsC (E rfl rfl) evs0) (split66 (nextF bs r).1 hx0 hx1) ?_
  rintro t27 S27 rfl
  refine AWL.allocOp rfl rfl (B rfl) rfl zc_87 (fun b6 => ?_)
  refine AWL.storeBox (i := 2) rfl rfl rfl ag_87 rfl (E rfl rfl) (E rfl rfl) rfl rfl (Nat.le_of_ble_eq_true rfl) ?_
  refine AWL.nil ?_
  refine AW.rseq ?_
  refine AWL.y rfl rfl (B rfl) (Yv.move rfl (E rfl rfl)) ?_
  refine AWL.call rfl rfl (B rfl) rfl ce_58 (E rfl rfl) (evsC (E rfl rfl) evs0) (S1 := [Ent.box b 68 (rdCells bs (realD1 bs r))]) (S2 := _) rfl (next63 b bs (realD1 bs r) hb hok1) ?_
  rintro t29 S29 ⟨rfl, rfl⟩
  refine AWL.y rfl rfl (B rfl) (Yv.assign rfl (E rfl rfl)) ?_
  refine AWL.nil ?_
  refine AW.rseq ?_
  refine AWL.y rfl rfl (B rfl) (Yv.move rfl (E rfl rfl)) ?_
  refine AWL.y rfl rfl (B rfl) (Yv.move rfl (E rfl rfl)) ?_
  refine AWL.y rfl rfl (B rfl) (Yv.eql rfl (E rfl rfl) (E rfl rfl)) ?_
  refine AWL.call rfl rfl (B rfl) rfl ce_59 (E rfl rfl) (evsC (E rfl rfl) (evsC (E rfl rfl) evs0)) (S1 := [Ent.box b 68 (rdCells bs (nextF bs (realD1 bs r)).2)]) (S2 := _) rfl (must64 b bs (nextF bs (realD1 bs r)).2 (decide ((nextF bs (realD1 bs r)).1 = 15))) ?_
  rintro t33 S33 rfl
  refine AWL.nil ?_
  refine AW.rseq ?_
  refine AWL.y rfl rfl (B rfl) (Yv.move rfl (E rfl rfl)) ?_
  refine AWL.call rfl rfl (B rfl) rfl ce_58 (E rfl rfl) (evsC (E rfl rfl) evs0) (S1 := [Ent.box b 68 (rdCells bs (realD2 bs r))]) (S2 := _) rfl (next63 b bs (realD2 bs r) hb hok2) ?_
  rintro t35 S35 ⟨rfl, rfl⟩
  refine AWL.y rfl rfl (B rfl) (Yv.assign rfl (E rfl rfl)) ?_
  refine AWL.nil ?_
  refine AW.seq ?_
  refine AW.rseq ?_
  refine AWL.y rfl rfl (B rfl) (Yv.move rfl (E rfl rfl)) ?_
  refine AWL.y rfl rfl (B rfl) (Yv.nilChk rfl (E rfl rfl)) ?_
  refine AWL.y rfl rfl (B rfl) (Yv.fieldBox rfl fo_68_2 (E rfl rfl)) ?_
  refine AWL.y rfl rfl (B rfl) (Yv.loadBox rfl ag_4 (i := 0) rfl (E rfl rfl) rfl) ?_
  refine AWL.y rfl rfl (B rfl) (Yv.move rfl (E rfl rfl)) ?_
  refine AWL.ygF rfl rfl rfl rfl (B rfl) (Yv.move rfl (E rfl rfl)) ?_
  refine AWL.ygF rfl rfl rfl rfl (B rfl) (Yv.nilChk rfl (Eg rfl rfl id)) ?_
  refine AWL.ygF rfl rfl rfl rfl (B rfl) (Yv.fieldBox rfl fo_68_3 (Eg rfl rfl id)) ?_
  refine AWL.ygF rfl rfl rfl rfl (B rfl) (Yv.loadBox rfl ag_4 (i := 0) rfl (Eg rfl rfl id) rfl) ?_
  refine AWL.y rfl rfl (B rfl) (Yv.pickOr (t := .const (.bool true)) rfl (E rfl rfl) (Eg rfl rfl id)) ?_
  refine AWL.nil ?_
  refine AW.cond rfl (fun h1t => ?_) (fun h1f => ?_)
  ·
   try replace h1t := of_decide_eq_true h1t
   refine AW.rseq ?_
   refine AWL.y rfl rfl (B rfl) (Yv.buildS rfl sh_23 evp0 (fun _ => rfl)) ?_
   refine AWL.storeBox (i := 1) rfl rfl rfl ag_23 rfl (E rfl rfl) (E rfl rfl) rfl rfl (Nat.le_of_ble_eq_true rfl) ?_
   refine AWL.nil ?_
   refine AW.ret (retI (.cellA (i := 1) rfl ag_23 rfl rfl rfl .nil) ?_)
   rw [realR, if_neg (ne_true_of_eq_false h0f), if_pos h1t]
   exact ⟨rfl, _, rfl⟩
  try replace h1f := of_decide_eq_false h1f
  refine AW.skip ?_
  refine AW.rseq ?_
  refine AWL.y rfl rfl (B rfl) (Yv.assign rfl (E rfl rfl)) ?_
  refine AWL.nil ?_
  refine AW.mid (α := Unit) (fun _ => [(0, true, .v (.pointer (some ⟨b, 0, none⟩))), (1, true, .v (.int .i64 first)), (4, true, .v (.pointer (some ⟨b4, 0, none⟩))), (6, true, .v (.pointer (some ⟨b6, 0, none⟩))), (8, true, .v (.int .i64 (nextF bs (realD2 bs r)).1)), (9, true, .v (.int .i64 (realK first (splitF (nextF bs r).1) (nextF bs (realD2 bs r)).1)))]) (fun _ => [Ent.box b 68 (rdCells bs (nextF bs (realD2 bs r)).2), .box b4 23 (insCells nilI), .box b6 87 (rxCells (splitF (nextF bs r).1))]) (fun _ => ¬ (decide (first = 102) && decide ((splitF (nextF bs r).1).wide = 1) && decide ((nextF bs (realD2 bs r)).1 = 126)) = true) ?_ ?_
  ·
   refine AW.block ?_
   refine AW.rseq ?_
   refine AWL.y rfl rfl (B rfl) (Yv.move rfl (E rfl rfl)) ?_
   refine AWL.y rfl rfl (B rfl) (Yv.eql rfl (E rfl rfl) (E rfl rfl)) ?_
   refine AWL.y rfl rfl (B rfl) (Yv.move rfl (E rfl rfl)) ?_
   refine AWL.ygT rfl rfl rfl rfl (B rfl) (Yv.fieldBox rfl fo_87_0 (E rfl rfl)) ?_
   refine AWL.ygT rfl rfl rfl rfl (B rfl) (Yv.loadBox rfl ag_3 (i := 2) rfl (Eg rfl rfl id) rfl) ?_
   refine AWL.ygT rfl rfl rfl rfl (B rfl) (Yv.eql rfl (Eg rfl rfl id) (E rfl rfl)) ?_
   refine AWL.y rfl rfl (B rfl) (Yv.pickAnd rfl (E rfl rfl) (Eg rfl rfl id)) ?_
   refine AWL.y rfl rfl (B rfl) (Yv.move rfl (E rfl rfl)) ?_
   refine AWL.ygT rfl rfl rfl rfl (B rfl) (Yv.move rfl (E rfl rfl)) ?_
   refine AWL.ygT rfl rfl rfl rfl (B rfl) (Yv.eql rfl (Eg rfl rfl id) (E rfl rfl)) ?_
   refine AWL.y rfl rfl (B rfl) (Yv.pickAnd rfl (E rfl rfl) (Eg rfl rfl id)) ?_
   refine AWL.y rfl rfl (B rfl) (Yv.assign rfl (E rfl rfl)) ?_
   refine AWL.nil ?_
   refine AW.cond rfl (fun h2t => ?_) (fun h2f => ?_)
   ·
    try replace h2t := of_decide_eq_true h2t
    refine AW.region ?_
    refine AWL.y rfl rfl (B rfl) (Yv.assign rfl (E rfl rfl)) ?_
    refine AWL.nil ?_
    exact ⟨(), (by intro hq; simp only [Bool.or_eq_true, Bool.and_eq_true, Bool.or_eq_false_iff, Bool.and_eq_false_iff, Bool.not_eq_true', Bool.not_eq_false', decide_eq_true_eq, decide_eq_false_iff_not, Decidable.not_not] at hq h2t; omega), (Sub.cons rfl rfl (Sub.cons rfl rfl (Sub.cons rfl rfl (Sub.cons rfl rfl (Sub.cons rfl rfl (Sub.cons rfl (by rw [realK, if_pos h2t] <;> rfl) Sub.nil)))))), rfl⟩
   try replace h2f := of_decide_eq_false h2f
   refine AW.rseq ?_
   refine AWL.y rfl rfl (B rfl) (Yv.move rfl (E rfl rfl)) ?_
   refine AWL.y rfl rfl (B rfl) (Yv.eql rfl (E rfl rfl) (E rfl rfl)) ?_
   refine AWL.y rfl rfl (B rfl) (Yv.move rfl (E rfl rfl)) ?_
   refine AWL.ygT rfl rfl rfl rfl (B rfl) (Yv.fieldBox rfl fo_87_0 (E rfl rfl)) ?_
   refine AWL.ygT rfl rfl rfl rfl (B rfl) (Yv.loadBox rfl ag_3 (i := 2) rfl (Eg rfl rfl id) rfl) ?_
   refine AWL.ygT rfl rfl rfl rfl (B rfl) (Yv.eql rfl (Eg rfl rfl id) (E rfl rfl)) ?_
   refine AWL.y rfl rfl (B rfl) (Yv.pickAnd rfl (E rfl rfl) (Eg rfl rfl id)) ?_
   refine AWL.y rfl rfl (B rfl) (Yv.move rfl (E rfl rfl)) ?_
   refine AWL.ygT rfl rfl rfl rfl (B rfl) (Yv.move rfl (E rfl rfl)) ?_
   refine AWL.ygT rfl rfl rfl rfl (B rfl) (Yv.eql rfl (Eg rfl rfl id) (E rfl rfl)) ?_
   refine AWL.y rfl rfl (B rfl) (Yv.pickAnd rfl (E rfl rfl) (Eg rfl rfl id)) ?_
   refine AWL.y rfl rfl (B rfl) (Yv.assign rfl (E rfl rfl)) ?_
   refine AWL.nil ?_
   refine AW.cond rfl (fun h3t => ?_) (fun h3f => ?_)
   ·
    try replace h3t := of_decide_eq_true h3t
    refine AW.rseq ?_
    refine AWL.y rfl rfl (B rfl) (Yv.move rfl (E rfl rfl)) ?_
    refine AWL.y rfl rfl (B rfl) (Yv.loadBoxA rfl ag_87 (i := 2) rfl (E rfl rfl) rfl rfl) ?_
    refine AWL.call rfl rfl (B rfl) rfl ce_78 (E rfl rfl) (evsC (E rfl rfl) (evsC (E rfl rfl) evs0)) (S1 := [Ent.box b 68 (rdCells bs (nextF bs (realD2 bs r)).2)]) (S2 := _) rfl (two78 b bs (nextF bs (realD2 bs r)).2 hb hok3 (splitF (nextF bs r).1)) ?_
    rintro t74 S74 ⟨rfl, E74, rfl⟩
    refine AWL.tuck ?_
    refine AWL.y rfl rfl (B rfl) (Yv.move rfl (E rfl rfl)) ?_
    refine AWL.y rfl rfl (B rfl) (Yv.extract rfl (E rfl rfl) rfl) ?_
    refine AWL.y rfl rfl (B rfl) (Yv.extract rfl (E rfl rfl) rfl) ?_
    refine AWL.y rfl rfl (B rfl) (Yv.assign rfl (E rfl rfl)) ?_
    refine AWL.y rfl rfl (B rfl) (Yv.assign rfl (E rfl rfl)) ?_
    refine AWL.nil ?_
    refine AW.rseq ?_
    refine AWL.y rfl rfl (B rfl) (Yv.move rfl (E rfl rfl)) ?_
    refine AWL.y rfl rfl (B rfl) (Yv.move rfl (E rfl rfl)) ?_
    refine AWL.y rfl rfl (B rfl) (Yv.buildS rfl sh_23 (evpC (E rfl rfl) (evpC (E rfl rfl) (evpC (E rfl rfl) evp0))) (fun _ => rfl)) ?_
    refine AWL.storeBox (i := 1) rfl rfl rfl ag_23 rfl (E rfl rfl) (E rfl rfl) rfl rfl (Nat.le_of_ble_eq_true rfl) ?_
    refine AWL.nil ?_
    refine AW.ret (retI (.cellA (i := 1) rfl ag_23 rfl rfl rfl .nil) ?_)
    rw [realR, if_neg (ne_true_of_eq_false h0f), if_neg (ne_true_of_eq_false h1f), realIn, if_pos h3t]
    exact ⟨rfl, _, rfl⟩
   try replace h3f := of_decide_eq_false h3f
   refine AW.rseq ?_
   refine AWL.y rfl rfl (B rfl) (Yv.move rfl (E rfl rfl)) ?_
   refine AWL.y rfl rfl (B rfl) (Yv.eql rfl (E rfl rfl) (E rfl rfl)) ?_
   refine AWL.y rfl rfl (B rfl) (Yv.move rfl (E rfl rfl)) ?_
   refine AWL.ygT rfl rfl rfl rfl (B rfl) (Yv.fieldBox rfl fo_87_0 (E rfl rfl)) ?_
   refine AWL.ygT rfl rfl rfl rfl (B rfl) (Yv.loadBox rfl ag_3 (i := 2) rfl (Eg rfl rfl id) rfl) ?_
   refine AWL.ygT rfl rfl rfl rfl (B rfl) (Yv.eql rfl (Eg rfl rfl id) (E rfl rfl)) ?_
   refine AWL.y rfl rfl (B rfl) (Yv.pickAnd rfl (E rfl rfl) (Eg rfl rfl id)) ?_
   refine AWL.y rfl rfl (B rfl) (Yv.move rfl (E rfl rfl)) ?_
   refine AWL.ygT rfl rfl rfl rfl (B rfl) (Yv.move rfl (E rfl rfl)) ?_
   refine AWL.ygT rfl rfl rfl rfl (B rfl) (Yv.eql rfl (Eg rfl rfl id) (E rfl rfl)) ?_
   refine AWL.y rfl rfl (B rfl) (Yv.pickAnd rfl (E rfl rfl) (Eg rfl rfl id)) ?_
   refine AWL.y rfl rfl (B rfl) (Yv.assign rfl (E rfl rfl)) ?_
   refine AWL.nil ?_
   refine AW.cond rfl (fun h4t => ?_) (fun h4f => ?_)
   ·
    try replace h4t := of_decide_eq_true h4t
    refine AW.region ?_
    refine AWL.y rfl rfl (B rfl) (Yv.assign rfl (E rfl rfl)) ?_
    refine AWL.nil ?_
    exact ⟨(), (ne_true_of_eq_false h3f), (Sub.cons rfl rfl (Sub.cons rfl rfl (Sub.cons rfl rfl (Sub.cons rfl rfl (Sub.cons rfl rfl (Sub.cons rfl (by rw [realK, if_neg (ne_true_of_eq_false h2f), if_pos h4t] <;> rfl) Sub.nil)))))), rfl⟩
   try replace h4f := of_decide_eq_false h4f
   refine AW.rseq ?_
   refine AWL.y rfl rfl (B rfl) (Yv.move rfl (E rfl rfl)) ?_
   refine AWL.y rfl rfl (B rfl) (Yv.eql rfl (E rfl rfl) (E rfl rfl)) ?_
   refine AWL.y rfl rfl (B rfl) (Yv.move rfl (E rfl rfl)) ?_
   refine AWL.ygT rfl rfl rfl rfl (B rfl) (Yv.fieldBox rfl fo_87_0 (E rfl rfl)) ?_
   refine AWL.ygT rfl rfl rfl rfl (B rfl) (Yv.loadBox rfl ag_3 (i := 2) rfl (Eg rfl rfl id) rfl) ?_
   refine AWL.ygT rfl rfl rfl rfl (B rfl) (Yv.eql rfl (Eg rfl rfl id) (E rfl rfl)) ?_
   refine AWL.y rfl rfl (B rfl) (Yv.pickAnd rfl (E rfl rfl) (Eg rfl rfl id)) ?_
   refine AWL.y rfl rfl (B rfl) (Yv.move rfl (E rfl rfl)) ?_
   refine AWL.ygT rfl rfl rfl rfl (B rfl) (Yv.move rfl (E rfl rfl)) ?_
   refine AWL.ygT rfl rfl rfl rfl (B rfl) (Yv.eql rfl (Eg rfl rfl id) (E rfl rfl)) ?_
   refine AWL.y rfl rfl (B rfl) (Yv.pickAnd rfl (E rfl rfl) (Eg rfl rfl id)) ?_
   refine AWL.y rfl rfl (B rfl) (Yv.assign rfl (E rfl rfl)) ?_
   refine AWL.nil ?_
   refine AW.cond rfl (fun h5t => ?_) (fun h5f => ?_)
   ·
    try replace h5t := of_decide_eq_true h5t
    refine AW.region ?_
    refine AWL.y rfl rfl (B rfl) (Yv.assign rfl (E rfl rfl)) ?_
    refine AWL.nil ?_
    exact ⟨(), (ne_true_of_eq_false h3f), (Sub.cons rfl rfl (Sub.cons rfl rfl (Sub.cons rfl rfl (Sub.cons rfl rfl (Sub.cons rfl rfl (Sub.cons rfl (by rw [realK, if_neg (ne_true_of_eq_false h2f), if_neg (ne_true_of_eq_false h4f), if_pos h5t] <;> rfl) Sub.nil)))))), rfl⟩
   try replace h5f := of_decide_eq_false h5f
   refine AW.rseq ?_
   refine AWL.y rfl rfl (B rfl) (Yv.move rfl (E rfl rfl)) ?_
   refine AWL.y rfl rfl (B rfl) (Yv.eql rfl (E rfl rfl) (E rfl rfl)) ?_
   refine AWL.y rfl rfl (B rfl) (Yv.move rfl (E rfl rfl)) ?_
   refine AWL.ygT rfl rfl rfl rfl (B rfl) (Yv.fieldBox rfl fo_87_0 (E rfl rfl)) ?_
   refine AWL.ygT rfl rfl rfl rfl (B rfl) (Yv.loadBox rfl ag_3 (i := 2) rfl (Eg rfl rfl id) rfl) ?_
   refine AWL.ygT rfl rfl rfl rfl (B rfl) (Yv.eql rfl (Eg rfl rfl id) (E rfl rfl)) ?_
   refine AWL.y rfl rfl (B rfl) (Yv.pickAnd rfl (E rfl rfl) (Eg rfl rfl id)) ?_
   refine AWL.y rfl rfl (B rfl) (Yv.move rfl (E rfl rfl)) ?_
   refine AWL.ygT rfl rfl rfl rfl (B rfl) (Yv.move rfl (E rfl rfl)) ?_
   refine AWL.ygT rfl rfl rfl rfl (B rfl) (Yv.eql rfl (Eg rfl rfl id) (E rfl rfl)) ?_
   refine AWL.y rfl rfl (B rfl) (Yv.pickAnd rfl (E rfl rfl) (Eg rfl rfl id)) ?_
   refine AWL.y rfl rfl (B rfl) (Yv.assign rfl (E rfl rfl)) ?_
   refine AWL.nil ?_
   refine AW.cond rfl (fun h6t => ?_) (fun h6f => ?_)
   ·
    try replace h6t := of_decide_eq_true h6t
    refine AW.region ?_
    refine AWL.y rfl rfl (B rfl) (Yv.assign rfl (E rfl rfl)) ?_
    refine AWL.nil ?_
    exact ⟨(), (ne_true_of_eq_false h3f), (Sub.cons rfl rfl (Sub.cons rfl rfl (Sub.cons rfl rfl (Sub.cons rfl rfl (Sub.cons rfl rfl (Sub.cons rfl (by rw [realK, if_neg (ne_true_of_eq_false h2f), if_neg (ne_true_of_eq_false h4f), if_neg (ne_true_of_eq_false h5f), if_pos h6t] <;> rfl) Sub.nil)))))), rfl⟩
   try replace h6f := of_decide_eq_false h6f
   refine AW.rseq ?_
   refine AWL.y rfl rfl (B rfl) (Yv.move rfl (E rfl rfl)) ?_
   refine AWL.y rfl rfl (B rfl) (Yv.eql rfl (E rfl rfl) (E rfl rfl)) ?_
   refine AWL.y rfl rfl (B rfl) (Yv.move rfl (E rfl rfl)) ?_
   refine AWL.ygT rfl rfl rfl rfl (B rfl) (Yv.fieldBox rfl fo_87_0 (E rfl rfl)) ?_
   refine AWL.ygT rfl rfl rfl rfl (B rfl) (Yv.loadBox rfl ag_3 (i := 2) rfl (Eg rfl rfl id) rfl) ?_
   refine AWL.ygT rfl rfl rfl rfl (B rfl) (Yv.eql rfl (Eg rfl rfl id) (E rfl rfl)) ?_
   refine AWL.y rfl rfl (B rfl) (Yv.pickAnd rfl (E rfl rfl) (Eg rfl rfl id)) ?_
   refine AWL.y rfl rfl (B rfl) (Yv.move rfl (E rfl rfl)) ?_
   refine AWL.ygT rfl rfl rfl rfl (B rfl) (Yv.move rfl (E rfl rfl)) ?_
   refine AWL.ygT rfl rfl rfl rfl (B rfl) (Yv.eql rfl (Eg rfl rfl id) (E rfl rfl)) ?_
   refine AWL.y rfl rfl (B rfl) (Yv.pickAnd rfl (E rfl rfl) (Eg rfl rfl id)) ?_
   refine AWL.y rfl rfl (B rfl) (Yv.assign rfl (E rfl rfl)) ?_
   refine AWL.nil ?_
   refine AW.cond rfl (fun h7t => ?_) (fun h7f => ?_)
   ·
    try replace h7t := of_decide_eq_true h7t
    refine AW.region ?_
    refine AWL.y rfl rfl (B rfl) (Yv.assign rfl (E rfl rfl)) ?_
    refine AWL.nil ?_
    exact ⟨(), (ne_true_of_eq_false h3f), (Sub.cons rfl rfl (Sub.cons rfl rfl (Sub.cons rfl rfl (Sub.cons rfl rfl (Sub.cons rfl rfl (Sub.cons rfl (by rw [realK, if_neg (ne_true_of_eq_false h2f), if_neg (ne_true_of_eq_false h4f), if_neg (ne_true_of_eq_false h5f), if_neg (ne_true_of_eq_false h6f), if_pos h7t] <;> rfl) Sub.nil)))))), rfl⟩
   try replace h7f := of_decide_eq_false h7f
   refine AW.rseq ?_
   refine AWL.y rfl rfl (B rfl) (Yv.move rfl (E rfl rfl)) ?_
   refine AWL.y rfl rfl (B rfl) (Yv.eql rfl (E rfl rfl) (E rfl rfl)) ?_
   refine AWL.y rfl rfl (B rfl) (Yv.move rfl (E rfl rfl)) ?_
   refine AWL.ygT rfl rfl rfl rfl (B rfl) (Yv.fieldBox rfl fo_87_0 (E rfl rfl)) ?_
   refine AWL.ygT rfl rfl rfl rfl (B rfl) (Yv.loadBox rfl ag_3 (i := 2) rfl (Eg rfl rfl id) rfl) ?_
   refine AWL.ygT rfl rfl rfl rfl (B rfl) (Yv.eql rfl (Eg rfl rfl id) (E rfl rfl)) ?_
   refine AWL.y rfl rfl (B rfl) (Yv.pickAnd rfl (E rfl rfl) (Eg rfl rfl id)) ?_
   refine AWL.y rfl rfl (B rfl) (Yv.move rfl (E rfl rfl)) ?_
   refine AWL.ygT rfl rfl rfl rfl (B rfl) (Yv.move rfl (E rfl rfl)) ?_
   refine AWL.ygT rfl rfl rfl rfl (B rfl) (Yv.eql rfl (Eg rfl rfl id) (E rfl rfl)) ?_
   refine AWL.y rfl rfl (B rfl) (Yv.pickAnd rfl (E rfl rfl) (Eg rfl rfl id)) ?_
   refine AWL.y rfl rfl (B rfl) (Yv.assign rfl (E rfl rfl)) ?_
   refine AWL.nil ?_
   refine AW.cond rfl (fun h8t => ?_) (fun h8f => ?_)
   ·
    try replace h8t := of_decide_eq_true h8t
    refine AW.region ?_
    refine AWL.y rfl rfl (B rfl) (Yv.assign rfl (E rfl rfl)) ?_
    refine AWL.nil ?_
    exact ⟨(), (ne_true_of_eq_false h3f), (Sub.cons rfl rfl (Sub.cons rfl rfl (Sub.cons rfl rfl (Sub.cons rfl rfl (Sub.cons rfl rfl (Sub.cons rfl (by rw [realK, if_neg (ne_true_of_eq_false h2f), if_neg (ne_true_of_eq_false h4f), if_neg (ne_true_of_eq_false h5f), if_neg (ne_true_of_eq_false h6f), if_neg (ne_true_of_eq_false h7f), if_pos h8t] <;> rfl) Sub.nil)))))), rfl⟩
   try replace h8f := of_decide_eq_false h8f
   refine AW.rseq ?_
   refine AWL.y rfl rfl (B rfl) (Yv.move rfl (E rfl rfl)) ?_
   refine AWL.y rfl rfl (B rfl) (Yv.eql rfl (E rfl rfl) (E rfl rfl)) ?_
   refine AWL.y rfl rfl (B rfl) (Yv.move rfl (E rfl rfl)) ?_
   refine AWL.ygT rfl rfl rfl rfl (B rfl) (Yv.fieldBox rfl fo_87_0 (E rfl rfl)) ?_
   refine AWL.ygT rfl rfl rfl rfl (B rfl) (Yv.loadBox rfl ag_3 (i := 2) rfl (Eg rfl rfl id) rfl) ?_
   refine AWL.ygT rfl rfl rfl rfl (B rfl) (Yv.eql rfl (Eg rfl rfl id) (E rfl rfl)) ?_
   refine AWL.y rfl rfl (B rfl) (Yv.pickAnd rfl (E rfl rfl) (Eg rfl rfl id)) ?_
   refine AWL.y rfl rfl (B rfl) (Yv.move rfl (E rfl rfl)) ?_
   refine AWL.ygT rfl rfl rfl rfl (B rfl) (Yv.move rfl (E rfl rfl)) ?_
   refine AWL.ygT rfl rfl rfl rfl (B rfl) (Yv.eql rfl (Eg rfl rfl id) (E rfl rfl)) ?_
   refine AWL.y rfl rfl (B rfl) (Yv.pickAnd rfl (E rfl rfl) (Eg rfl rfl id)) ?_
   refine AWL.y rfl rfl (B rfl) (Yv.assign rfl (E rfl rfl)) ?_
   refine AWL.nil ?_
   refine AW.cond rfl (fun h9t => ?_) (fun h9f => ?_)
   ·
    try replace h9t := of_decide_eq_true h9t
    refine AW.region ?_
    refine AWL.y rfl rfl (B rfl) (Yv.assign rfl (E rfl rfl)) ?_
    refine AWL.nil ?_
    exact ⟨(), (ne_true_of_eq_false h3f), (Sub.cons rfl rfl (Sub.cons rfl rfl (Sub.cons rfl rfl (Sub.cons rfl rfl (Sub.cons rfl rfl (Sub.cons rfl (by rw [realK, if_neg (ne_true_of_eq_false h2f), if_neg (ne_true_of_eq_false h4f), if_neg (ne_true_of_eq_false h5f), if_neg (ne_true_of_eq_false h6f), if_neg (ne_true_of_eq_false h7f), if_neg (ne_true_of_eq_false h8f), if_pos h9t] <;> rfl) Sub.nil)))))), rfl⟩
   try replace h9f := of_decide_eq_false h9f
   refine AW.skip ?_
   exact ⟨(), (ne_true_of_eq_false h3f), (Sub.cons rfl rfl (Sub.cons rfl rfl (Sub.cons rfl rfl (Sub.cons rfl rfl (Sub.cons rfl rfl (Sub.cons rfl (by rw [realK, if_neg (ne_true_of_eq_false h2f), if_neg (ne_true_of_eq_false h4f), if_neg (ne_true_of_eq_false h5f), if_neg (ne_true_of_eq_false h6f), if_neg (ne_true_of_eq_false h7f), if_neg (ne_true_of_eq_false h8f), if_neg (ne_true_of_eq_false h9f)] <;> rfl) Sub.nil)))))), rfl⟩
  ·
   rintro _ hmid
   refine AW.rseq ?_
   refine AWL.y rfl rfl (B rfl) (Yv.move rfl (E rfl rfl)) ?_
   refine AWL.y rfl rfl (B rfl) (Yv.move rfl (E rfl rfl)) ?_
   refine AWL.y rfl rfl (B rfl) (Yv.gtr rfl (E rfl rfl) (E rfl rfl)) ?_
   refine AWL.call rfl rfl (B rfl) rfl ce_59 (E rfl rfl) (evsC (E rfl rfl) (evsC (E rfl rfl) evs0)) (S1 := [Ent.box b 68 (rdCells bs (nextF bs (realD2 bs r)).2)]) (S2 := _) rfl (must64 b bs (nextF bs (realD2 bs r)).2 (decide (0 < (realK first (splitF (nextF bs r).1) (nextF bs (realD2 bs r)).1)))) ?_
   rintro t155 S155 rfl
   refine AWL.nil ?_
   refine AW.rseq ?_
   refine AWL.y rfl rfl (B rfl) (Yv.move rfl (E rfl rfl)) ?_
   refine AWL.y rfl rfl (B rfl) (Yv.loadBoxA rfl ag_87 (i := 2) rfl (E rfl rfl) rfl rfl) ?_
   refine AWL.call rfl rfl (B rfl) rfl ce_78 (E rfl rfl) (evsC (E rfl rfl) (evsC (E rfl rfl) evs0)) (S1 := [Ent.box b 68 (rdCells bs (mustF (nextF bs (realD2 bs r)).2 (decide (0 < (realK first (splitF (nextF bs r).1) (nextF bs (realD2 bs r)).1)))))]) (S2 := _) rfl (two78 b bs (mustF (nextF bs (realD2 bs r)).2 (decide (0 < (realK first (splitF (nextF bs r).1) (nextF bs (realD2 bs r)).1)))) hb (must_ok hok3 _) (splitF (nextF bs r).1)) ?_
   rintro t159 S159 ⟨rfl, E159, rfl⟩
   refine AWL.tuck ?_
   refine AWL.y rfl rfl (B rfl) (Yv.move rfl (E rfl rfl)) ?_
   refine AWL.y rfl rfl (B rfl) (Yv.extract rfl (E rfl rfl) rfl) ?_
   refine AWL.y rfl rfl (B rfl) (Yv.extract rfl (E rfl rfl) rfl) ?_
   refine AWL.y rfl rfl (B rfl) (Yv.assign rfl (E rfl rfl)) ?_
   refine AWL.y rfl rfl (B rfl) (Yv.assign rfl (E rfl rfl)) ?_
   refine AWL.nil ?_
   refine AW.rseq ?_
   refine AWL.y rfl rfl (B rfl) (Yv.move rfl (E rfl rfl)) ?_
   refine AWL.y rfl rfl (B rfl) (Yv.move rfl (E rfl rfl)) ?_
   refine AWL.y rfl rfl (B rfl) (Yv.move rfl (E rfl rfl)) ?_
   refine AWL.y rfl rfl (B rfl) (Yv.buildS rfl sh_23 (evpC (E rfl rfl) (evpC (E rfl rfl) (evpC (E rfl rfl) evp0))) (fun _ => rfl)) ?_
   refine AWL.storeBox (i := 1) rfl rfl rfl ag_23 rfl (E rfl rfl) (E rfl rfl) rfl rfl (Nat.le_of_ble_eq_true rfl) ?_
   refine AWL.nil ?_
   refine AW.ret (retI (.cellA (i := 1) rfl ag_23 rfl rfl rfl .nil) ?_)
   rw [realR, if_neg (ne_true_of_eq_false h0f), if_neg (ne_true_of_eq_false h1f), realIn, if_neg hmid]
   exact ⟨rfl, _, rfl⟩

set_option maxHeartbeats 4000000 in
theorem prefixed65 (b : Nat) (bs : List UInt8) (r : Rd) (hb : bs.length ≤ 1099511627776) (hr : RdOk bs r) (x : Rx) :
    ACalls Tryd.prog 60 [.v (.pointer (some ⟨b, 0, none⟩)), rxT x] [Ent.box b 68 (rdCells bs r)] (fun t_ S => t_ = insT (prefR bs x r).1 ∧ ∃ E, S = Ent.box b 68 (rdCells bs (prefR bs x r).2) :: E) := by
  obtain ⟨hx0, hx1⟩ := next_range bs r
  have hok1 := next_ok hr
  have hokm : RdOk bs (mustF (nextF bs r).2 (decide (x.reg = 0))) := must_ok hok1 _
  have hoko : RdOk bs (mustF (oneD bs x (nextF bs r).2) (decide ((oneV bs x (nextF bs r).2).1 = 0))) := must_ok (one_ok hok1 x) _
  refine ACalls.intro Tryd.func60 rfl Tryd.ntmps60 (Nat.le_of_ble_eq_true rfl) rfl fun X w0 => ?_
  refine AW.rseq ?_
  refine AWL.boxOp rfl rfl (B rfl) rfl (E rfl rfl) rfl (fun b3 => ?_)
  refine AWL.allocOp rfl rfl (B rfl) rfl zc_23 (fun b4 => ?_)
  refine AWL.nil ?_
  refine AW.rseq ?_
  refine AWL.y rfl rfl (B rfl) (Yv.move rfl (E rfl rfl)) ?_
  refine AWL.call rfl rfl (B rfl) rfl ce_58 (E rfl rfl) (evsC (E rfl rfl) evs0) (S1 := [Ent.box b 68 (rdCells bs r)]) (S2 := _) rfl (next63 b bs r hb hr) ?_
  rintro t22 S22 ⟨rfl, rfl⟩
  refine AWL.y rfl rfl (B rfl) (Yv.assign rfl (E rfl rfl)) ?_
  refine AWL.nil ?_
  refine AW.seq ?_
  refine AW.rseq ?_
  refine AWL.y rfl rfl (B rfl) (Yv.move rfl (E rfl rfl)) ?_
  refine AWL.y rfl rfl (B rfl) (Yv.nilChk rfl (E rfl rfl)) ?_
  refine AWL.y rfl rfl (B rfl) (Yv.fieldBox rfl fo_68_2 (E rfl rfl)) ?_
  refine AWL.y rfl rfl (B rfl) (Yv.loadBox rfl ag_4 (i := 0) rfl (E rfl rfl) rfl) ?_
  refine AWL.y rfl rfl (B rfl) (Yv.move rfl (E rfl rfl)) ?_
  refine AWL.ygF rfl rfl rfl rfl (B rfl) (Yv.move rfl (E rfl rfl)) ?_
  refine AWL.ygF rfl rfl rfl rfl (B rfl) (Yv.nilChk rfl (Eg rfl rfl id)) ?_
  refine AWL.ygF rfl rfl rfl rfl (B rfl) (Yv.fieldBox rfl fo_68_3 (Eg rfl rfl id)) ?_
  refine AWL.ygF rfl rfl rfl rfl (B rfl) (Yv.loadBox rfl ag_4 (i := 0) rfl (Eg rfl rfl id) rfl) ?_
  refine AWL.y rfl rfl (B rfl) (Yv.pickOr (t := .const (.bool true)) rfl (E rfl rfl) (Eg rfl rfl id)) ?_
  refine AWL.nil ?_
  refine AW.cond rfl (fun h0t => ?_) (fun h0f => ?_)
  ·
   try replace h0t := of_decide_eq_true h0t
   refine AW.rseq ?_
   refine AWL.y rfl rfl (B rfl) (Yv.buildS rfl sh_23 evp0 (fun _ => rfl)) ?_
   refine AWL.storeBox (i := 2) rfl rfl rfl ag_23 rfl (E rfl rfl) (E rfl rfl) rfl rfl (Nat.le_of_ble_eq_true rfl) ?_
   refine AWL.nil ?_
   refine AW.ret (retI (.cellA (i := 2) rfl ag_23 rfl rfl rfl .nil) ?_)
   rw [prefR, if_pos h0t]
   exact ⟨rfl, _, rfl⟩
  try replace h0f := of_decide_eq_false h0f
  refine AW.skip ?_
  refine AW.seq ?_
  refine AW.rseq ?_
  refine AWL.y rfl rfl (B rfl) (Yv.move rfl (E rfl rfl)) ?_
  refine AWL.y rfl rfl (B rfl) (Yv.eql rfl (E rfl rfl) (E rfl rfl)) ?_
  refine AWL.nil ?_
  refine AW.cond rfl (fun h1t => ?_) (fun h1f => ?_)
  ·
   try replace h1t := of_decide_eq_true h1t
   refine AW.rseq ?_
   refine AWL.y rfl rfl (B rfl) (Yv.move rfl (E rfl rfl)) ?_
   refine AWL.y rfl rfl (B rfl) (Yv.loadBoxA rfl ag_87 (i := 1) rfl (E rfl rfl) rfl rfl) ?_
   refine AWL.call rfl rfl (B rfl) rfl ce_72 (E rfl rfl) (evsC (E rfl rfl) (evsC (E rfl rfl) evs0)) (S1 := [Ent.box b 68 (rdCells bs (nextF bs r).2)]) (S2 := _) rfl (far72 b bs (nextF bs r).2 hb hok1 x) ?_
   rintro t38 S38 ⟨rfl, E38, rfl⟩
   refine AWL.tuck ?_
   refine AWL.storeBox (i := 2) rfl rfl rfl ag_23 rfl (E rfl rfl) (E rfl rfl) rfl rfl (Nat.le_of_ble_eq_true rfl) ?_
   refine AWL.nil ?_
   refine AW.ret (retI (.cellA (i := 2) rfl ag_23 rfl rfl rfl .nil) ?_)
   rw [prefR, if_neg (ne_true_of_eq_false h0f), prefIn, if_pos h1t]
   exact ⟨rfl, _, rfl⟩
  try replace h1f := of_decide_eq_false h1f
  refine AW.skip ?_
  refine AW.seq ?_
  refine AW.rseq ?_
  refine AWL.y rfl rfl (B rfl) (Yv.fieldBox rfl fo_87_0 (E rfl rfl)) ?_
  refine AWL.y rfl rfl (B rfl) (Yv.loadBox rfl ag_3 (i := 1) rfl (E rfl rfl) rfl) ?_
  refine AWL.y rfl rfl (B rfl) (Yv.eql rfl (E rfl rfl) (E rfl rfl)) ?_
  refine AWL.nil ?_
  refine AW.cond rfl (fun h2t => ?_) (fun h2f => ?_)
  ·
   try replace h2t := of_decide_eq_true h2t
   refine AW.rseq ?_
   refine AWL.y rfl rfl (B rfl) (Yv.move rfl (E rfl rfl)) ?_
   refine AWL.y rfl rfl (B rfl) (Yv.loadBoxA rfl ag_87 (i := 1) rfl (E rfl rfl) rfl rfl) ?_
   refine AWL.y rfl rfl (B rfl) (Yv.move rfl (E rfl rfl)) ?_
   refine AWL.call rfl rfl (B rfl) rfl ce_73 (E rfl rfl) (evsC (E rfl rfl) (evsC (E rfl rfl) (evsC (E rfl rfl) evs0))) (S1 := [Ent.box b 68 (rdCells bs (nextF bs r).2)]) (S2 := _) rfl (narrow73 b bs (nextF bs r).2 hb hok1 x (nextF bs r).1 hx0 hx1) ?_
   rintro t45 S45 ⟨rfl, E45, rfl⟩
   refine AWL.tuck ?_
   refine AWL.storeBox (i := 2) rfl rfl rfl ag_23 rfl (E rfl rfl) (E rfl rfl) rfl rfl (Nat.le_of_ble_eq_true rfl) ?_
   refine AWL.nil ?_
   refine AW.ret (retI (.cellA (i := 2) rfl ag_23 rfl rfl rfl .nil) ?_)
   rw [prefR, if_neg (ne_true_of_eq_false h0f), prefIn, if_neg h1f, if_pos h2t]
   exact ⟨rfl, _, rfl⟩
  try replace h2f := of_decide_eq_false h2f
  refine AW.skip ?_
  refine AW.seq ?_
  refine AW.rseq ?_
  refine AWL.y rfl rfl (B rfl) (Yv.move rfl (E rfl rfl)) ?_
  refine AWL.y rfl rfl (B rfl) (Yv.bits rfl rfl (E rfl rfl) (E rfl rfl)) ?_
  refine AWL.y rfl rfl (B rfl) (Yv.eql rfl (E rfl rfl) (E rfl rfl)) ?_
  refine AWL.nil ?_
  refine AW.cond rfl (fun h3t => ?_) (fun h3f => ?_)
  ·
   try replace h3t := of_decide_eq_true h3t
   refine AW.rseq ?_
   refine AWL.y rfl rfl (B rfl) (Yv.move rfl (E rfl rfl)) ?_
   refine AWL.y rfl rfl (B rfl) (Yv.fieldBox rfl fo_87_1 (E rfl rfl)) ?_
   refine AWL.y rfl rfl (B rfl) (Yv.loadBox rfl ag_3 (i := 1) rfl (E rfl rfl) rfl) ?_
   refine AWL.y rfl rfl (B rfl) (Yv.eql rfl (E rfl rfl) (E rfl rfl)) ?_
   refine AWL.call rfl rfl (B rfl) rfl ce_59 (E rfl rfl) (evsC (E rfl rfl) (evsC (E rfl rfl) evs0)) (S1 := [Ent.box b 68 (rdCells bs (nextF bs r).2)]) (S2 := _) rfl (must64 b bs (nextF bs r).2 (decide (x.reg = 0))) ?_
   rintro t53 S53 rfl
   refine AWL.nil ?_
   refine AW.mid (α := Nat) (fun b6 => [(0, true, .v (.pointer (some ⟨b, 0, none⟩))), (3, true, .v (.pointer (some ⟨b3, 0, none⟩))), (4, true, .v (.pointer (some ⟨b4, 0, none⟩))), (6, true, .v (.pointer (some ⟨b6, 0, none⟩)))]) (fun b6 => [Ent.box b 68 (rdCells bs (immD bs (mustF (nextF bs r).2 (decide (x.reg = 0))) 8)), .box b3 87 (rxCells x), .box b4 23 (insCells nilI), .box b6 23 (insCells ⟨2, orI x.rm ((nextF bs r).1 % 8), 0, 0, 0, (immV bs (mustF (nextF bs r).2 (decide (x.reg = 0))) 8)⟩)]) (fun _ => True) ?_ ?_
   ·
    refine AW.regionH (HeldBox b3 (rxVals x)) rfl (tells_box (k := 1) rfl) ?_
    refine AWH.tk (i := 0) rfl rfl rfl (B rfl) (heldAll (freeField rfl fo_87_2 (E rfl rfl))) ?_
    refine AWH.tk (i := 1) rfl rfl rfl (B rfl) (heldLoad rfl ag_3 (E rfl rfl) rfl) ?_
    refine AWH.tk (i := 2) rfl rfl rfl (B rfl) (heldAll (freeMove rfl (E rfl rfl))) ?_
    refine AWH.tk (i := 3) rfl rfl rfl (B rfl) (heldAll (freeAndN_i64 3 8 (by decide) (by decide) (by decide) rfl (E rfl rfl) (E rfl rfl) ⟨by omega, by omega⟩)) ?_
    refine AWH.tk (i := 4) rfl rfl rfl (B rfl) (heldAll (freeBits rfl rfl (E rfl rfl) (E rfl rfl))) ?_
    refine AWH.tk (i := 5) rfl rfl rfl (B rfl) (heldAll (freeMove rfl (E rfl rfl))) ?_
    refine AWH.two (i := 6) (j := 8) (by kernel_rfl) rfl rfl ?_ ?_
    ·
     refine AWL.call rfl rfl (B rfl) rfl ce_63 (E rfl rfl) (evsC (E rfl rfl) (evsC (E rfl rfl) evs0)) (S1 := [Ent.box b 68 (rdCells bs (mustF (nextF bs r).2 (decide (x.reg = 0))))]) (S2 := _) rfl (imm68 b bs (mustF (nextF bs r).2 (decide (x.reg = 0))) hb hokm 8 (.inr (.inr rfl))) ?_
     rintro t60 S60 ⟨rfl, rfl⟩
     refine tb 1 rfl ?_
     refine AWH.two (i := 7) (j := 8) (by kernel_rfl) rfl rfl ?_ ?_
     ·
      refine AWL.y rfl rfl (B rfl) (Yv.buildS rfl sh_23 (evpC (E rfl rfl) (evpC (E rfl rfl) (evpC (E rfl rfl) evp0))) (fun _ => rfl)) ?_
      refine tb 1 rfl ?_
      refine AWH.one (i := 8) (by kernel_rfl) rfl ?_
      refine AWL.allocOp rfl rfl (B rfl) rfl zc_23 (fun b6 => ?_)
      refine tb 1 rfl ?_
      refine AWH.one (i := 9) (by kernel_rfl) rfl ?_
      refine AWL.storeBox (i := 3) rfl rfl rfl ag_23 rfl (E rfl rfl) (E rfl rfl) rfl rfl (Nat.le_of_ble_eq_true rfl) ?_
      refine tb 1 rfl ?_
      refine AWH.done (by kernel_rfl) ?_
      exact ⟨b6, trivial, (Sub.cons rfl rfl (Sub.cons rfl rfl (Sub.cons rfl rfl (Sub.cons rfl rfl Sub.nil)))), rfl⟩
     ·
      refine AWL.allocOp rfl rfl (B rfl) rfl zc_23 (fun b6 => ?_)
      refine tb 1 rfl ?_
      refine AWH.one (i := 7) (by kernel_rfl) rfl ?_
      refine AWL.y rfl rfl (B rfl) (Yv.buildS rfl sh_23 (evpC (E rfl rfl) (evpC (E rfl rfl) (evpC (E rfl rfl) evp0))) (fun _ => rfl)) ?_
      refine tb 1 rfl ?_
      refine AWH.one (i := 9) (by kernel_rfl) rfl ?_
      refine AWL.storeBox (i := 3) rfl rfl rfl ag_23 rfl (E rfl rfl) (E rfl rfl) rfl rfl (Nat.le_of_ble_eq_true rfl) ?_
      refine tb 1 rfl ?_
      refine AWH.done (by kernel_rfl) ?_
      exact ⟨b6, trivial, (Sub.cons rfl rfl (Sub.cons rfl rfl (Sub.cons rfl rfl (Sub.cons rfl rfl Sub.nil)))), rfl⟩
    ·
     refine AWL.allocOp rfl rfl (B rfl) rfl zc_23 (fun b6 => ?_)
     refine tb 1 rfl ?_
     refine AWH.one (i := 6) (by kernel_rfl) rfl ?_
     refine AWL.call rfl rfl (B rfl) rfl ce_63 (E rfl rfl) (evsC (E rfl rfl) (evsC (E rfl rfl) evs0)) (S1 := [Ent.box b 68 (rdCells bs (mustF (nextF bs r).2 (decide (x.reg = 0))))]) (S2 := _) rfl (imm68 b bs (mustF (nextF bs r).2 (decide (x.reg = 0))) hb hokm 8 (.inr (.inr rfl))) ?_
     rintro t60 S60 ⟨rfl, rfl⟩
     refine tb 1 rfl ?_
     refine AWH.one (i := 7) (by kernel_rfl) rfl ?_
     refine AWL.y rfl rfl (B rfl) (Yv.buildS rfl sh_23 (evpC (E rfl rfl) (evpC (E rfl rfl) (evpC (E rfl rfl) evp0))) (fun _ => rfl)) ?_
     refine tb 1 rfl ?_
     refine AWH.one (i := 9) (by kernel_rfl) rfl ?_
     refine AWL.storeBox (i := 3) rfl rfl rfl ag_23 rfl (E rfl rfl) (E rfl rfl) rfl rfl (Nat.le_of_ble_eq_true rfl) ?_
     refine tb 1 rfl ?_
     refine AWH.done (by kernel_rfl) ?_
     exact ⟨b6, trivial, (Sub.cons rfl rfl (Sub.cons rfl rfl (Sub.cons rfl rfl (Sub.cons rfl rfl Sub.nil)))), rfl⟩
   ·
    rintro b6 hmid
    refine AW.rseq ?_
    refine AWL.y rfl rfl (B rfl) (Yv.move rfl (E rfl rfl)) ?_
    refine AWL.y rfl rfl (B rfl) (Yv.fieldBox rfl fo_23_5 (E rfl rfl)) ?_
    refine AWL.y rfl rfl (B rfl) (Yv.loadBox rfl ag_2 (i := 3) rfl (E rfl rfl) rfl) ?_
    refine AWL.callP rfl rfl (B rfl) rfl ce_31 (E rfl rfl) (evsC (E rfl rfl) evs0) (small38 (immV bs (mustF (nextF bs r).2 (decide (x.reg = 0))) 8)) (fun t S h => h) ?_
    refine AWL.y rfl rfl (B rfl) (Yv.not rfl (E rfl rfl)) ?_
    refine AWL.call rfl rfl (B rfl) rfl ce_59 (E rfl rfl) (evsC (E rfl rfl) (evsC (E rfl rfl) evs0)) (S1 := [Ent.box b 68 (rdCells bs (immD bs (mustF (nextF bs r).2 (decide (x.reg = 0))) 8))]) (S2 := _) rfl (must64 b bs (immD bs (mustF (nextF bs r).2 (decide (x.reg = 0))) 8) (!smallF (immV bs (mustF (nextF bs r).2 (decide (x.reg = 0))) 8))) ?_
    rintro t67 S67 rfl
    refine AWL.nil ?_
    refine AW.rseq ?_
    refine AWL.y rfl rfl (B rfl) (Yv.loadBoxA rfl ag_23 (i := 3) rfl (E rfl rfl) rfl rfl) ?_
    refine AWL.storeBox (i := 2) rfl rfl rfl ag_23 rfl (E rfl rfl) (E rfl rfl) rfl rfl (Nat.le_of_ble_eq_true rfl) ?_
    refine AWL.nil ?_
    refine AW.ret (retI (.cellA (i := 2) rfl ag_23 rfl rfl rfl .nil) ?_)
    rw [prefR, if_neg (ne_true_of_eq_false h0f), prefIn, if_neg h1f, if_neg h2f, if_pos h3t]
    exact ⟨rfl, _, rfl⟩
  try replace h3f := of_decide_eq_false h3f
  refine AW.skip ?_
  refine AW.seq ?_
  refine AW.rseq ?_
  refine AWL.y rfl rfl (B rfl) (Yv.move rfl (E rfl rfl)) ?_
  refine AWL.nil ?_
  refine AW.block ?_
  refine AW.rseq ?_
  refine AWL.y rfl rfl (B rfl) (Yv.eql rfl (E rfl rfl) (E rfl rfl)) ?_
  refine AWL.y rfl rfl (B rfl) (Yv.assign rfl (E rfl rfl)) ?_
  refine AWL.nil ?_
  refine AW.cond rfl (fun h4t => ?_) (fun h4f => ?_)
  ·
   try replace h4t := of_decide_eq_true h4t
   refine AW.rseq ?_
   refine AWL.y rfl rfl (B rfl) (Yv.move rfl (E rfl rfl)) ?_
   refine AWL.y rfl rfl (B rfl) (Yv.loadBoxA rfl ag_87 (i := 1) rfl (E rfl rfl) rfl rfl) ?_
   refine AWL.call rfl rfl (B rfl) rfl ce_74 (E rfl rfl) (evsC (E rfl rfl) (evsC (E rfl rfl) evs0)) (S1 := [Ent.box b 68 (rdCells bs (nextF bs r).2)]) (S2 := _) rfl (mem74 b bs (nextF bs r).2 hb hok1 x) ?_
   rintro t75 S75 ⟨rfl, E75, rfl⟩
   refine AWL.tuck ?_
   refine AWL.y rfl rfl (B rfl) (Yv.move rfl (E rfl rfl)) ?_
   refine AWL.y rfl rfl (B rfl) (Yv.extract rfl (E rfl rfl) rfl) ?_
   refine AWL.y rfl rfl (B rfl) (Yv.extract rfl (E rfl rfl) rfl) ?_
   refine AWL.y rfl rfl (B rfl) (Yv.extract rfl (E rfl rfl) rfl) ?_
   refine AWL.y rfl rfl (B rfl) (Yv.assign rfl (E rfl rfl)) ?_
   refine AWL.y rfl rfl (B rfl) (Yv.assign rfl (E rfl rfl)) ?_
   refine AWL.y rfl rfl (B rfl) (Yv.assign rfl (E rfl rfl)) ?_
   refine AWL.nil ?_
   refine AW.rseq ?_
   refine AWL.y rfl rfl (B rfl) (Yv.move rfl (E rfl rfl)) ?_
   refine AWL.y rfl rfl (B rfl) (Yv.move rfl (E rfl rfl)) ?_
   refine AWL.y rfl rfl (B rfl) (Yv.move rfl (E rfl rfl)) ?_
   refine AWL.y rfl rfl (B rfl) (Yv.buildS rfl sh_23 (evpC (E rfl rfl) (evpC (E rfl rfl) (evpC (E rfl rfl) (evpC (E rfl rfl) (evpC (E rfl rfl) evp0))))) (fun _ => rfl)) ?_
   refine AWL.storeBox (i := 2) rfl rfl rfl ag_23 rfl (E rfl rfl) (E rfl rfl) rfl rfl (Nat.le_of_ble_eq_true rfl) ?_
   refine AWL.nil ?_
   refine AW.ret (retI (.cellA (i := 2) rfl ag_23 rfl rfl rfl .nil) ?_)
   rw [prefR, if_neg (ne_true_of_eq_false h0f), prefIn, if_neg h1f, if_neg h2f, if_neg h3f, if_pos h4t]
   exact ⟨rfl, _, rfl⟩
  try replace h4f := of_decide_eq_false h4f
  refine AW.rseq ?_
  refine AWL.y rfl rfl (B rfl) (Yv.eql rfl (E rfl rfl) (E rfl rfl)) ?_
  refine AWL.y rfl rfl (B rfl) (Yv.assign rfl (E rfl rfl)) ?_
  refine AWL.nil ?_
  refine AW.cond rfl (fun h5t => ?_) (fun h5f => ?_)
  ·
   try replace h5t := of_decide_eq_true h5t
   refine AW.rseq ?_
   refine AWL.y rfl rfl (B rfl) (Yv.move rfl (E rfl rfl)) ?_
   refine AWL.y rfl rfl (B rfl) (Yv.loadBoxA rfl ag_87 (i := 1) rfl (E rfl rfl) rfl rfl) ?_
   refine AWL.call rfl rfl (B rfl) rfl ce_74 (E rfl rfl) (evsC (E rfl rfl) (evsC (E rfl rfl) evs0)) (S1 := [Ent.box b 68 (rdCells bs (nextF bs r).2)]) (S2 := _) rfl (mem74 b bs (nextF bs r).2 hb hok1 x) ?_
   rintro t88 S88 ⟨rfl, E88, rfl⟩
   refine AWL.tuck ?_
   refine AWL.y rfl rfl (B rfl) (Yv.move rfl (E rfl rfl)) ?_
   refine AWL.y rfl rfl (B rfl) (Yv.extract rfl (E rfl rfl) rfl) ?_
   refine AWL.y rfl rfl (B rfl) (Yv.extract rfl (E rfl rfl) rfl) ?_
   refine AWL.y rfl rfl (B rfl) (Yv.extract rfl (E rfl rfl) rfl) ?_
   refine AWL.y rfl rfl (B rfl) (Yv.assign rfl (E rfl rfl)) ?_
   refine AWL.y rfl rfl (B rfl) (Yv.assign rfl (E rfl rfl)) ?_
   refine AWL.y rfl rfl (B rfl) (Yv.assign rfl (E rfl rfl)) ?_
   refine AWL.nil ?_
   refine AW.rseq ?_
   refine AWL.y rfl rfl (B rfl) (Yv.move rfl (E rfl rfl)) ?_
   refine AWL.y rfl rfl (B rfl) (Yv.move rfl (E rfl rfl)) ?_
   refine AWL.y rfl rfl (B rfl) (Yv.move rfl (E rfl rfl)) ?_
   refine AWL.y rfl rfl (B rfl) (Yv.buildS rfl sh_23 (evpC (E rfl rfl) (evpC (E rfl rfl) (evpC (E rfl rfl) (evpC (E rfl rfl) evp0)))) (fun _ => rfl)) ?_
   refine AWL.storeBox (i := 2) rfl rfl rfl ag_23 rfl (E rfl rfl) (E rfl rfl) rfl rfl (Nat.le_of_ble_eq_true rfl) ?_
   refine AWL.nil ?_
   refine AW.ret (retI (.cellA (i := 2) rfl ag_23 rfl rfl rfl .nil) ?_)
   rw [prefR, if_neg (ne_true_of_eq_false h0f), prefIn, if_neg h1f, if_neg h2f, if_neg h3f, if_neg h4f, if_pos h5t]
   exact ⟨rfl, _, rfl⟩
  try replace h5f := of_decide_eq_false h5f
  refine AW.rseq ?_
  refine AWL.y rfl rfl (B rfl) (Yv.eql rfl (E rfl rfl) (E rfl rfl)) ?_
  refine AWL.y rfl rfl (B rfl) (Yv.assign rfl (E rfl rfl)) ?_
  refine AWL.nil ?_
  refine AW.cond rfl (fun h6t => ?_) (fun h6f => ?_)
  ·
   try replace h6t := of_decide_eq_true h6t
   refine AW.rseq ?_
   refine AWL.y rfl rfl (B rfl) (Yv.move rfl (E rfl rfl)) ?_
   refine AWL.y rfl rfl (B rfl) (Yv.loadBoxA rfl ag_87 (i := 1) rfl (E rfl rfl) rfl rfl) ?_
   refine AWL.call rfl rfl (B rfl) rfl ce_75 (E rfl rfl) (evsC (E rfl rfl) (evsC (E rfl rfl) evs0)) (S1 := [Ent.box b 68 (rdCells bs (nextF bs r).2)]) (S2 := _) rfl (moved75 b bs (nextF bs r).2 hb hok1 x) ?_
   rintro t100 S100 ⟨rfl, E100, rfl⟩
   refine AWL.tuck ?_
   refine AWL.storeBox (i := 2) rfl rfl rfl ag_23 rfl (E rfl rfl) (E rfl rfl) rfl rfl (Nat.le_of_ble_eq_true rfl) ?_
   refine AWL.nil ?_
   refine AW.ret (retI (.cellA (i := 2) rfl ag_23 rfl rfl rfl .nil) ?_)
   rw [prefR, if_neg (ne_true_of_eq_false h0f), prefIn, if_neg h1f, if_neg h2f, if_neg h3f, if_neg h4f, if_neg h5f, if_pos h6t]
   exact ⟨rfl, _, rfl⟩
  try replace h6f := of_decide_eq_false h6f
  refine AW.rseq ?_
  refine AWL.y rfl rfl (B rfl) (Yv.eql rfl (E rfl rfl) (E rfl rfl)) ?_
  refine AWL.y rfl rfl (B rfl) (Yv.assign rfl (E rfl rfl)) ?_
  refine AWL.nil ?_
  refine AW.cond rfl (fun h7t => ?_) (fun h7f => ?_)
  ·
   try replace h7t := of_decide_eq_true h7t
   refine AW.rseq ?_
   refine AWL.y rfl rfl (B rfl) (Yv.move rfl (E rfl rfl)) ?_
   refine AWL.y rfl rfl (B rfl) (Yv.loadBoxA rfl ag_87 (i := 1) rfl (E rfl rfl) rfl rfl) ?_
   refine AWL.call rfl rfl (B rfl) rfl ce_76 (E rfl rfl) (evsC (E rfl rfl) (evsC (E rfl rfl) evs0)) (S1 := [Ent.box b 68 (rdCells bs (nextF bs r).2)]) (S2 := _) rfl (one76 b bs (nextF bs r).2 hb hok1 x) ?_
   rintro t106 S106 ⟨rfl, E106, rfl⟩
   refine AWL.tuck ?_
   refine AWL.y rfl rfl (B rfl) (Yv.move rfl (E rfl rfl)) ?_
   refine AWL.y rfl rfl (B rfl) (Yv.extract rfl (E rfl rfl) rfl) ?_
   refine AWL.y rfl rfl (B rfl) (Yv.extract rfl (E rfl rfl) rfl) ?_
   refine AWL.y rfl rfl (B rfl) (Yv.assign rfl (E rfl rfl)) ?_
   refine AWL.y rfl rfl (B rfl) (Yv.assign rfl (E rfl rfl)) ?_
   refine AWL.nil ?_
   refine AW.rseq ?_
   refine AWL.y rfl rfl (B rfl) (Yv.move rfl (E rfl rfl)) ?_
   refine AWL.y rfl rfl (B rfl) (Yv.move rfl (E rfl rfl)) ?_
   refine AWL.y rfl rfl (B rfl) (Yv.eql rfl (E rfl rfl) (E rfl rfl)) ?_
   refine AWL.call rfl rfl (B rfl) rfl ce_59 (E rfl rfl) (evsC (E rfl rfl) (evsC (E rfl rfl) evs0)) (S1 := [Ent.box b 68 (rdCells bs (oneD bs x (nextF bs r).2))]) (S2 := _) rfl (must64 b bs (oneD bs x (nextF bs r).2) (decide ((oneV bs x (nextF bs r).2).1 = 0))) ?_
   rintro t112 S112 rfl
   refine AWL.nil ?_
   refine AW.rseq ?_
   refine AWL.y rfl rfl (B rfl) (Yv.move rfl (E rfl rfl)) ?_
   refine AWL.y rfl rfl (B rfl) (Yv.move rfl (E rfl rfl)) ?_
   refine AWL.call rfl rfl (B rfl) rfl ce_63 (E rfl rfl) (evsC (E rfl rfl) (evsC (E rfl rfl) evs0)) (S1 := [Ent.box b 68 (rdCells bs (mustF (oneD bs x (nextF bs r).2) (decide ((oneV bs x (nextF bs r).2).1 = 0))))]) (S2 := _) rfl (imm68 b bs (mustF (oneD bs x (nextF bs r).2) (decide ((oneV bs x (nextF bs r).2).1 = 0))) hb hoko 4 (.inr (.inl rfl))) ?_
   rintro t115 S115 ⟨rfl, rfl⟩
   refine AWL.y rfl rfl (B rfl) (Yv.buildS rfl sh_23 (evpC (E rfl rfl) (evpC (E rfl rfl) (evpC (E rfl rfl) evp0))) (fun _ => rfl)) ?_
   refine AWL.storeBox (i := 2) rfl rfl rfl ag_23 rfl (E rfl rfl) (E rfl rfl) rfl rfl (Nat.le_of_ble_eq_true rfl) ?_
   refine AWL.nil ?_
   refine AW.ret (retI (.cellA (i := 2) rfl ag_23 rfl rfl rfl .nil) ?_)
   rw [prefR, if_neg (ne_true_of_eq_false h0f), prefIn, if_neg h1f, if_neg h2f, if_neg h3f, if_neg h4f, if_neg h5f, if_neg h6f, if_pos h7t]
   exact ⟨rfl, _, rfl⟩
  try replace h7f := of_decide_eq_false h7f
  refine AW.mid (α := Unit) (fun _ => [(0, true, .v (.pointer (some ⟨b, 0, none⟩))), (3, true, .v (.pointer (some ⟨b3, 0, none⟩))), (4, true, .v (.pointer (some ⟨b4, 0, none⟩))), (5, true, .v (.int .i64 (nextF bs r).1)), (117, true, .v (.bool (decide ((nextF bs r).1 = 129) || (decide ((nextF bs r).1 = 247) || (decide ((nextF bs r).1 = 211) || decide ((nextF bs r).1 = 193))))))]) (fun _ => [Ent.box b 68 (rdCells bs (nextF bs r).2), .box b3 87 (rxCells x), .box b4 23 (insCells nilI)]) (fun _ => True) ?_ ?_
  ·
   refine AW.rseq ?_
   refine AWL.y rfl rfl (B rfl) (Yv.eql rfl (E rfl rfl) (E rfl rfl)) ?_
   refine AWL.y rfl rfl (B rfl) (Yv.assign rfl (E rfl rfl)) ?_
   refine AWL.nil ?_
   refine AW.cond rfl (fun h8t => ?_) (fun h8f => ?_)
   ·
    try replace h8t := of_decide_eq_true h8t
    refine AW.skip ?_
    exact ⟨(), trivial, (Sub.cons rfl rfl (Sub.cons rfl rfl (Sub.cons rfl rfl (Sub.cons rfl rfl (Sub.cons rfl (by simp [h8t]) Sub.nil))))), rfl⟩
   try replace h8f := of_decide_eq_false h8f
   refine AW.rseq ?_
   refine AWL.y rfl rfl (B rfl) (Yv.eql rfl (E rfl rfl) (E rfl rfl)) ?_
   refine AWL.y rfl rfl (B rfl) (Yv.assign rfl (E rfl rfl)) ?_
   refine AWL.nil ?_
   refine AW.cond rfl (fun h9t => ?_) (fun h9f => ?_)
   ·
    try replace h9t := of_decide_eq_true h9t
    refine AW.skip ?_
    exact ⟨(), trivial, (Sub.cons rfl rfl (Sub.cons rfl rfl (Sub.cons rfl rfl (Sub.cons rfl rfl (Sub.cons rfl (by simp [h8f, h9t]) Sub.nil))))), rfl⟩
   try replace h9f := of_decide_eq_false h9f
   refine AW.rseq ?_
   refine AWL.y rfl rfl (B rfl) (Yv.eql rfl (E rfl rfl) (E rfl rfl)) ?_
   refine AWL.y rfl rfl (B rfl) (Yv.assign rfl (E rfl rfl)) ?_
   refine AWL.nil ?_
   refine AW.cond rfl (fun h10t => ?_) (fun h10f => ?_)
   ·
    try replace h10t := of_decide_eq_true h10t
    refine AW.skip ?_
    exact ⟨(), trivial, (Sub.cons rfl rfl (Sub.cons rfl rfl (Sub.cons rfl rfl (Sub.cons rfl rfl (Sub.cons rfl (by simp [h8f, h9f, h10t]) Sub.nil))))), rfl⟩
   try replace h10f := of_decide_eq_false h10f
   refine AW.region ?_
   refine AWL.y rfl rfl (B rfl) (Yv.eql rfl (E rfl rfl) (E rfl rfl)) ?_
   refine AWL.y rfl rfl (B rfl) (Yv.assign rfl (E rfl rfl)) ?_
   refine AWL.nil ?_
   exact ⟨(), trivial, (Sub.cons rfl rfl (Sub.cons rfl rfl (Sub.cons rfl rfl (Sub.cons rfl rfl (Sub.cons rfl (by simp [h8f, h9f, h10f]) Sub.nil))))), rfl⟩
  ·
   rintro _ hmid
   refine AW.cond rfl (fun h11t => ?_) (fun h11f => ?_)
   ·
    try replace h11t := of_decide_eq_true h11t
    have h11 := h11t
    simp only [Bool.or_eq_true, decide_eq_true_eq] at h11
    refine AW.rseq ?_
    refine AWL.y rfl rfl (B rfl) (Yv.move rfl (E rfl rfl)) ?_
    refine AWL.y rfl rfl (B rfl) (Yv.loadBoxA rfl ag_87 (i := 1) rfl (E rfl rfl) rfl rfl) ?_
    refine AWL.y rfl rfl (B rfl) (Yv.move rfl (E rfl rfl)) ?_
    refine AWL.call rfl rfl (B rfl) rfl ce_77 (E rfl rfl) (evsC (E rfl rfl) (evsC (E rfl rfl) (evsC (E rfl rfl) evs0))) (S1 := [Ent.box b 68 (rdCells bs (nextF bs r).2)]) (S2 := _) rfl (numbered77 b bs (nextF bs r).2 hb hok1 x (nextF bs r).1) ?_
    rintro t125 S125 ⟨rfl, E125, rfl⟩
    refine AWL.tuck ?_
    refine AWL.storeBox (i := 2) rfl rfl rfl ag_23 rfl (E rfl rfl) (E rfl rfl) rfl rfl (Nat.le_of_ble_eq_true rfl) ?_
    refine AWL.nil ?_
    refine AW.ret (retI (.cellA (i := 2) rfl ag_23 rfl rfl rfl .nil) ?_)
    rw [prefR, if_neg (ne_true_of_eq_false h0f), prefIn, if_neg h1f, if_neg h2f, if_neg h3f, if_neg h4f, if_neg h5f, if_neg h6f, if_neg h7f, if_pos h11]
    exact ⟨rfl, _, rfl⟩
   try replace h11f := of_decide_eq_false h11f
   have h11 := h11f
   simp only [Bool.or_eq_false_iff, decide_eq_false_iff_not] at h11
   have h11n : ¬ ((nextF bs r).1 = 129 ∨ (nextF bs r).1 = 247 ∨ (nextF bs r).1 = 211 ∨ (nextF bs r).1 = 193) := by omega
   refine AW.skip ?_
   refine AW.seq ?_
   refine AW.rseq ?_
   refine AWL.buildSlice1 rfl rfl (B rfl) rfl el_43 rfl (evsC (E rfl rfl) (evsC (E rfl rfl) (evsC (E rfl rfl) (evsC (E rfl rfl) (evsC (E rfl rfl) (evsC (E rfl rfl) (evsC (E rfl rfl) (evsC (E rfl rfl) (evsC (E rfl rfl) evs0))))))))) (Nat.le_of_ble_eq_true rfl) rfl rfl ?_
   refine AWL.y rfl rfl (B rfl) (Yv.lenSl rfl so_43 (B rfl) (E rfl rfl) (show _ = 9 * 1 from rfl)) ?_
   refine AWL.y rfl rfl (B rfl) (Yv.move rfl (E rfl rfl)) ?_
   refine AWL.nil ?_
   refine AW.block ?_
   refine AW.loop (fun (j : Nat) => [(0, true, .v (.pointer (some ⟨b, 0, none⟩))), (3, true, .v (.pointer (some ⟨b3, 0, none⟩))), (4, true, .v (.pointer (some ⟨b4, 0, none⟩))), (5, true, .v (.int .i64 (nextF bs r).1)), (126, true, .sl 1 (ints kindsP)), (127, true, .v (.int .i64 9)), (128, true, .v (.int .i64 (j : Int)))]) (fun (j : Nat) => [Ent.box b 68 (rdCells bs (nextF bs r).2), .box b3 87 (rxCells x), .box b4 23 (insCells nilI)]) (fun (j : Nat) => j ≤ 9 ∧ ∀ i, i < j → ¬ (opF (kindsP.getD i 0)).1 = (nextF bs r).1) (fun (j : Nat) => 9 - j) 0 ?_ ?_ ?_ ?_
   · exact ⟨Nat.zero_le _, fun i hi => by omega⟩
   · exact (Sub.cons rfl rfl (Sub.cons rfl rfl (Sub.cons rfl rfl (Sub.cons rfl rfl (Sub.cons rfl rfl (Sub.cons rfl rfl (Sub.cons rfl rfl Sub.nil)))))))
   · rfl
   ·
    intro j hinv
    obtain ⟨hj, hpre⟩ := hinv
    refine AW.rseq ?_
    refine AWL.y rfl rfl (B rfl) (Yv.lss rfl (E rfl rfl) (E rfl rfl)) ?_
    refine AWL.nil ?_
    refine AW.seq ?_
    refine AW.cond rfl (fun h12t => ?_) (fun h12f => ?_)
    ·
     try replace h12t := of_decide_eq_true h12t
     refine AW.skip ?_
     refine AW.seq ?_
     refine AW.block ?_
     refine AW.rseq ?_
     refine AWL.y rfl rfl (B rfl) (Yv.indexSl (j := j) rfl ss_43 (B rfl) (E rfl rfl) (E rfl rfl) (fun hg => ⟨rfl, by show j * 1 < 9; omega⟩)) ?_
     refine AWL.y rfl rfl (B rfl) (Yv.loadRp rfl ag_3 (E rfl rfl) (fun hg => ints_get (by show j < 9; omega))) ?_
     refine AWL.y rfl rfl (B rfl) (Yv.assign rfl (E rfl rfl)) ?_
     refine AWL.nil ?_
     refine AW.rseq ?_
     refine AWL.y rfl rfl (B rfl) (Yv.move rfl (E rfl rfl)) ?_
     refine AWL.callT rfl rfl (B rfl) rfl ce_26 (E rfl rfl) (evsC (E rfl rfl) evs0) (opcode33 (kindsP.getD j 0)) ?_
     rintro t134 S134 rfl
     refine AWL.y rfl rfl (B rfl) (Yv.move rfl (E rfl rfl)) ?_
     refine AWL.y rfl rfl (B rfl) (Yv.extract rfl (E rfl rfl) rfl) ?_
     refine AWL.y rfl rfl (B rfl) (Yv.extract rfl (E rfl rfl) rfl) ?_
     refine AWL.y rfl rfl (B rfl) (Yv.assign rfl (E rfl rfl)) ?_
     refine AWL.y rfl rfl (B rfl) (Yv.assign rfl (E rfl rfl)) ?_
     refine AWL.nil ?_
     refine AW.rseq ?_
     refine AWL.y rfl rfl (B rfl) (Yv.move rfl (E rfl rfl)) ?_
     refine AWL.y rfl rfl (B rfl) (Yv.move rfl (E rfl rfl)) ?_
     refine AWL.y rfl rfl (B rfl) (Yv.eql rfl (E rfl rfl) (E rfl rfl)) ?_
     refine AWL.nil ?_
     refine AW.cond rfl (fun h13t => ?_) (fun h13f => ?_)
     ·
      try replace h13t := of_decide_eq_true h13t
      refine AW.rseq ?_
      refine AWL.y rfl rfl (B rfl) (Yv.move rfl (E rfl rfl)) ?_
      refine AWL.y rfl rfl (B rfl) (Yv.loadBoxA rfl ag_87 (i := 1) rfl (E rfl rfl) rfl rfl) ?_
      refine AWL.call rfl rfl (B rfl) rfl ce_78 (E rfl rfl) (evsC (E rfl rfl) (evsC (E rfl rfl) evs0)) (S1 := [Ent.box b 68 (rdCells bs (nextF bs r).2)]) (S2 := _) rfl (two78 b bs (nextF bs r).2 hb hok1 x) ?_
      rintro t143 S143 ⟨rfl, E143, rfl⟩
      refine AWL.tuck ?_
      refine AWL.y rfl rfl (B rfl) (Yv.move rfl (E rfl rfl)) ?_
      refine AWL.y rfl rfl (B rfl) (Yv.extract rfl (E rfl rfl) rfl) ?_
      refine AWL.y rfl rfl (B rfl) (Yv.extract rfl (E rfl rfl) rfl) ?_
      refine AWL.y rfl rfl (B rfl) (Yv.assign rfl (E rfl rfl)) ?_
      refine AWL.y rfl rfl (B rfl) (Yv.assign rfl (E rfl rfl)) ?_
      refine AWL.nil ?_
      refine AW.rseq ?_
      refine AWL.y rfl rfl (B rfl) (Yv.move rfl (E rfl rfl)) ?_
      refine AWL.y rfl rfl (B rfl) (Yv.move rfl (E rfl rfl)) ?_
      refine AWL.y rfl rfl (B rfl) (Yv.move rfl (E rfl rfl)) ?_
      refine AWL.y rfl rfl (B rfl) (Yv.buildS rfl sh_23 (evpC (E rfl rfl) (evpC (E rfl rfl) (evpC (E rfl rfl) evp0))) (fun _ => rfl)) ?_
      refine AWL.storeBox (i := 2) rfl rfl rfl ag_23 rfl (E rfl rfl) (E rfl rfl) rfl rfl (Nat.le_of_ble_eq_true rfl) ?_
      refine AWL.nil ?_
      refine AW.ret (retI (.cellA (i := 2) rfl ag_23 rfl rfl rfl .nil) ?_)
      rw [prefR, if_neg (ne_true_of_eq_false h0f), prefIn, if_neg h1f, if_neg h2f, if_neg h3f, if_neg h4f, if_neg h5f, if_neg h6f, if_neg h7f, if_neg h11n, kindP_at (show j < 9 by omega) hpre h13t]
      exact ⟨rfl, _, rfl⟩
     try replace h13f := of_decide_eq_false h13f
     refine AW.skip ?_
     refine AW.region ?_
     refine AWL.y rfl rfl (B rfl) (Yv.addN_i64 rfl (E rfl rfl) (E rfl rfl) (fun hg => by omega)) ?_
     refine AWL.y rfl rfl (B rfl) (Yv.move rfl (E rfl rfl)) ?_
     refine AWL.nil ?_
     refine ⟨j + 1, ⟨by omega, fun i hi => ?_⟩, by omega, Sub.cons rfl rfl (Sub.cons rfl rfl (Sub.cons rfl rfl (Sub.cons rfl rfl (Sub.cons rfl rfl (Sub.cons rfl rfl (Sub.cons rfl (by simp) Sub.nil)))))), rfl⟩
     rcases Nat.lt_or_ge i j with h | h
     · exact hpre i h
     · rw [show i = j by omega]; exact h13f
    try replace h12f := of_decide_eq_false h12f
    refine AW.exit ?_
    refine AW.rseq ?_
    refine AWL.y rfl rfl (B rfl) (Yv.move rfl (E rfl rfl)) ?_
    refine AWL.call rfl rfl (B rfl) rfl ce_59 (E rfl rfl) (evsC (E rfl rfl) (evsC (E rfl rfl) evs0)) (S1 := [Ent.box b 68 (rdCells bs (nextF bs r).2)]) (S2 := _) rfl (must64 b bs (nextF bs r).2 false) ?_
    rintro t152 S152 rfl
    refine AWL.nil ?_
    refine AW.rseq ?_
    refine AWL.y rfl rfl (B rfl) (Yv.buildS rfl sh_23 evp0 (fun _ => rfl)) ?_
    refine AWL.storeBox (i := 2) rfl rfl rfl ag_23 rfl (E rfl rfl) (E rfl rfl) rfl rfl (Nat.le_of_ble_eq_true rfl) ?_
    refine AWL.nil ?_
    refine AW.ret (retI (.cellA (i := 2) rfl ag_23 rfl rfl rfl .nil) ?_)
    rw [prefR, if_neg (ne_true_of_eq_false h0f), prefIn, if_neg h1f, if_neg h2f, if_neg h3f, if_neg h4f, if_neg h5f, if_neg h6f, if_neg h7f, if_neg h11n, kindP_none (fun i hi => hpre i (by omega))]
    exact ⟨rfl, _, rfl⟩

set_option maxHeartbeats 4000000 in
theorem instruction54 (b : Nat) (bs : List UInt8) (r : Rd) (hb : bs.length ≤ 1099511627776) (hr : RdOk bs r) :
    ACalls Tryd.prog 44 [.v (.pointer (some ⟨b, 0, none⟩))] [Ent.box b 68 (rdCells bs r)] (fun t_ S => t_ = insT (insR bs r).1 ∧ ∃ E, S = Ent.box b 68 (rdCells bs (insR bs r).2) :: E) := by
  obtain ⟨hx0, hx1⟩ := next_range bs r
  have hok1 := next_ok hr
  obtain ⟨hy0, hy1⟩ := next_range bs (nextF bs r).2
  have hok2 := next_ok hok1
  refine ACalls.intro Tryd.func44 rfl Tryd.ntmps44 (Nat.le_of_ble_eq_true rfl) rfl fun X w0 => ?_
  refine AW.rseq ?_
  refine AWL.allocOp rfl rfl (B rfl) rfl zc_23 (fun b2 => ?_)
  refine AWL.nil ?_
  refine AW.rseq ?_
  refine AWL.y rfl rfl (B rfl) (Yv.move rfl (E rfl rfl)) ?_
  refine AWL.call rfl rfl (B rfl) rfl ce_58 (E rfl rfl) (evsC (E rfl rfl) evs0) (S1 := [Ent.box b 68 (rdCells bs r)]) (S2 := _) rfl (next63 b bs r hb hr) ?_
  rintro t6 S6 ⟨rfl, rfl⟩
  refine AWL.y rfl rfl (B rfl) (Yv.assign rfl (E rfl rfl)) ?_
  refine AWL.nil ?_
  refine AW.seq ?_
  refine AW.block ?_
  refine AW.rseq ?_
  refine AWL.y rfl rfl (B rfl) (Yv.move rfl (E rfl rfl)) ?_
  refine AWL.y rfl rfl (B rfl) (Yv.nilChk rfl (E rfl rfl)) ?_
  refine AWL.y rfl rfl (B rfl) (Yv.fieldBox rfl fo_68_2 (E rfl rfl)) ?_
  refine AWL.y rfl rfl (B rfl) (Yv.loadBox rfl ag_4 (i := 0) rfl (E rfl rfl) rfl) ?_
  refine AWL.y rfl rfl (B rfl) (Yv.assign rfl (E rfl rfl)) ?_
  refine AWL.nil ?_
  refine AW.cond rfl (fun h0t => ?_) (fun h0f => ?_)
  ·
   try replace h0t := of_decide_eq_true h0t
   refine AW.rseq ?_
   refine AWL.y rfl rfl (B rfl) (Yv.buildS rfl sh_23 evp0 (fun _ => rfl)) ?_
   refine AWL.storeBox (i := 1) rfl rfl rfl ag_23 rfl (E rfl rfl) (E rfl rfl) rfl rfl (Nat.le_of_ble_eq_true rfl) ?_
   refine AWL.nil ?_
   refine AW.ret (retI (.cellA (i := 1) rfl ag_23 rfl rfl rfl .nil) ?_)
   rw [insR, if_pos h0t]
   exact ⟨rfl, _, rfl⟩
  try replace h0f := of_decide_eq_false h0f
  refine AW.rseq ?_
  refine AWL.y rfl rfl (B rfl) (Yv.move rfl (E rfl rfl)) ?_
  refine AWL.y rfl rfl (B rfl) (Yv.bits rfl rfl (E rfl rfl) (E rfl rfl)) ?_
  refine AWL.y rfl rfl (B rfl) (Yv.eql rfl (E rfl rfl) (E rfl rfl)) ?_
  refine AWL.y rfl rfl (B rfl) (Yv.assign rfl (E rfl rfl)) ?_
  refine AWL.nil ?_
  refine AW.cond rfl (fun h1t => ?_) (fun h1f => ?_)
  ·
   try replace h1t := of_decide_eq_true h1t
   refine AW.rseq ?_
   refine AWL.y rfl rfl (B rfl) (Yv.move rfl (E rfl rfl)) ?_
   refine AWL.y rfl rfl (B rfl) (Yv.move rfl (E rfl rfl)) ?_
   refine AWL.y rfl rfl (B rfl) (Yv.bits rfl rfl (E rfl rfl) (E rfl rfl)) ?_
   refine AWL.y rfl rfl (B rfl) (Yv.eql rfl (E rfl rfl) (E rfl rfl)) ?_
   refine AWL.call rfl rfl (B rfl) rfl ce_59 (E rfl rfl) (evsC (E rfl rfl) (evsC (E rfl rfl) evs0)) (S1 := [Ent.box b 68 (rdCells bs (nextF bs r).2)]) (S2 := _) rfl (must64 b bs (nextF bs r).2 (decide (andI (nextF bs r).1 2 = 0))) ?_
   rintro t21 S21 rfl
   refine AWL.nil ?_
   refine AW.rseq ?_
   refine AWL.y rfl rfl (B rfl) (Yv.move rfl (E rfl rfl)) ?_
   refine AWL.y rfl rfl (B rfl) (Yv.move rfl (E rfl rfl)) ?_
   refine AWL.callT rfl rfl (B rfl) rfl ce_61 (E rfl rfl) (evsC (E rfl rfl) evs0) (split66 (nextF bs r).1 hx0 hx1) ?_
   rintro t24 S24 rfl
   refine AWL.call rfl rfl (B rfl) rfl ce_60 (E rfl rfl) (evsC (E rfl rfl) (evsC (E rfl rfl) evs0)) (S1 := [Ent.box b 68 (rdCells bs (mustF (nextF bs r).2 (decide (andI (nextF bs r).1 2 = 0))))]) (S2 := _) rfl (prefixed65 b bs (mustF (nextF bs r).2 (decide (andI (nextF bs r).1 2 = 0))) hb (must_ok hok1 _) (splitF (nextF bs r).1)) ?_
   rintro t25 S25 ⟨rfl, E25, rfl⟩
   refine AWL.tuck ?_
   refine AWL.storeBox (i := 1) rfl rfl rfl ag_23 rfl (E rfl rfl) (E rfl rfl) rfl rfl (Nat.le_of_ble_eq_true rfl) ?_
   refine AWL.nil ?_
   refine AW.ret (retI (.cellA (i := 1) rfl ag_23 rfl rfl rfl .nil) ?_)
   rw [insR, if_neg (ne_true_of_eq_false h0f), insIn, if_pos h1t]
   exact ⟨rfl, _, rfl⟩
  try replace h1f := of_decide_eq_false h1f
  refine AW.rseq ?_
  refine AWL.y rfl rfl (B rfl) (Yv.move rfl (E rfl rfl)) ?_
  refine AWL.y rfl rfl (B rfl) (Yv.eql rfl (E rfl rfl) (E rfl rfl)) ?_
  refine AWL.y rfl rfl (B rfl) (Yv.move rfl (E rfl rfl)) ?_
  refine AWL.ygF rfl rfl rfl rfl (B rfl) (Yv.move rfl (E rfl rfl)) ?_
  refine AWL.ygF rfl rfl rfl rfl (B rfl) (Yv.eql rfl (Eg rfl rfl id) (E rfl rfl)) ?_
  refine AWL.y rfl rfl (B rfl) (Yv.pickOr (t := .const (.bool true)) rfl (E rfl rfl) (Eg rfl rfl id)) ?_
  refine AWL.y rfl rfl (B rfl) (Yv.assign rfl (E rfl rfl)) ?_
  refine AWL.nil ?_
  refine AW.cond rfl (fun h2t => ?_) (fun h2f => ?_)
  ·
   try replace h2t := of_decide_eq_true h2t
   refine AW.rseq ?_
   refine AWL.y rfl rfl (B rfl) (Yv.move rfl (E rfl rfl)) ?_
   refine AWL.y rfl rfl (B rfl) (Yv.move rfl (E rfl rfl)) ?_
   refine AWL.call rfl rfl (B rfl) rfl ce_62 (E rfl rfl) (evsC (E rfl rfl) (evsC (E rfl rfl) evs0)) (S1 := [Ent.box b 68 (rdCells bs (nextF bs r).2)]) (S2 := _) rfl (real67 b bs (nextF bs r).2 hb hok1 (nextF bs r).1) ?_
   rintro t35 S35 ⟨rfl, E35, rfl⟩
   refine AWL.tuck ?_
   refine AWL.storeBox (i := 1) rfl rfl rfl ag_23 rfl (E rfl rfl) (E rfl rfl) rfl rfl (Nat.le_of_ble_eq_true rfl) ?_
   refine AWL.nil ?_
   refine AW.ret (retI (.cellA (i := 1) rfl ag_23 rfl rfl rfl .nil) ?_)
   rw [insR, if_neg (ne_true_of_eq_false h0f), insIn, if_neg h1f, if_pos h2t]
   exact ⟨rfl, _, rfl⟩
  try replace h2f := of_decide_eq_false h2f
  refine AW.rseq ?_
  refine AWL.y rfl rfl (B rfl) (Yv.move rfl (E rfl rfl)) ?_
  refine AWL.y rfl rfl (B rfl) (Yv.bits rfl rfl (E rfl rfl) (E rfl rfl)) ?_
  refine AWL.y rfl rfl (B rfl) (Yv.eql rfl (E rfl rfl) (E rfl rfl)) ?_
  refine AWL.y rfl rfl (B rfl) (Yv.assign rfl (E rfl rfl)) ?_
  refine AWL.nil ?_
  refine AW.cond rfl (fun h3t => ?_) (fun h3f => ?_)
  ·
   try replace h3t := of_decide_eq_true h3t
   refine AW.rseq ?_
   refine AWL.y rfl rfl (B rfl) (Yv.move rfl (E rfl rfl)) ?_
   refine AWL.y rfl rfl (B rfl) (Yv.andN_i64 4 16 (by decide) (by decide) (by decide) rfl (E rfl rfl) (E rfl rfl) (fun hg => ⟨by omega, by omega⟩)) ?_
   refine AWL.y rfl rfl (B rfl) (Yv.move rfl (E rfl rfl)) ?_
   refine AWL.call rfl rfl (B rfl) rfl ce_63 (E rfl rfl) (evsC (E rfl rfl) (evsC (E rfl rfl) evs0)) (S1 := [Ent.box b 68 (rdCells bs (nextF bs r).2)]) (S2 := _) rfl (imm68 b bs (nextF bs r).2 hb hok1 1 (.inl rfl)) ?_
   rintro t43 S43 ⟨rfl, rfl⟩
   refine AWL.y rfl rfl (B rfl) (Yv.buildS rfl sh_23 (evpC (E rfl rfl) (evpC (E rfl rfl) (evpC (E rfl rfl) (evpC (E rfl rfl) evp0)))) (fun _ => rfl)) ?_
   refine AWL.storeBox (i := 1) rfl rfl rfl ag_23 rfl (E rfl rfl) (E rfl rfl) rfl rfl (Nat.le_of_ble_eq_true rfl) ?_
   refine AWL.nil ?_
   refine AW.ret (retI (.cellA (i := 1) rfl ag_23 rfl rfl rfl .nil) ?_)
   rw [insR, if_neg (ne_true_of_eq_false h0f), insIn, if_neg h1f, if_neg (ne_true_of_eq_false h2f), if_pos h3t]
   exact ⟨rfl, _, rfl⟩
  try replace h3f := of_decide_eq_false h3f
  refine AW.skip ?_
  refine AW.seq ?_
  refine AW.rseq ?_
  refine AWL.y rfl rfl (B rfl) (Yv.move rfl (E rfl rfl)) ?_
  refine AWL.nil ?_
  refine AW.block ?_
  refine AW.rseq ?_
  refine AWL.y rfl rfl (B rfl) (Yv.eql rfl (E rfl rfl) (E rfl rfl)) ?_
  refine AWL.y rfl rfl (B rfl) (Yv.assign rfl (E rfl rfl)) ?_
  refine AWL.nil ?_
  refine AW.cond rfl (fun h4t => ?_) (fun h4f => ?_)
  ·
   try replace h4t := of_decide_eq_true h4t
   refine AW.rseq ?_
   refine AWL.y rfl rfl (B rfl) (Yv.move rfl (E rfl rfl)) ?_
   refine AWL.call rfl rfl (B rfl) rfl ce_63 (E rfl rfl) (evsC (E rfl rfl) (evsC (E rfl rfl) evs0)) (S1 := [Ent.box b 68 (rdCells bs (nextF bs r).2)]) (S2 := _) rfl (imm68 b bs (nextF bs r).2 hb hok1 1 (.inl rfl)) ?_
   rintro t49 S49 ⟨rfl, rfl⟩
   refine AWL.y rfl rfl (B rfl) (Yv.buildS rfl sh_23 (evpC (E rfl rfl) (evpC (E rfl rfl) (evpC (E rfl rfl) evp0))) (fun _ => rfl)) ?_
   refine AWL.storeBox (i := 1) rfl rfl rfl ag_23 rfl (E rfl rfl) (E rfl rfl) rfl rfl (Nat.le_of_ble_eq_true rfl) ?_
   refine AWL.nil ?_
   refine AW.ret (retI (.cellA (i := 1) rfl ag_23 rfl rfl rfl .nil) ?_)
   rw [insR, if_neg (ne_true_of_eq_false h0f), insIn, if_neg h1f, if_neg (ne_true_of_eq_false h2f), if_neg h3f, if_pos h4t]
   exact ⟨rfl, _, rfl⟩
  try replace h4f := of_decide_eq_false h4f
  refine AW.rseq ?_
  refine AWL.y rfl rfl (B rfl) (Yv.eql rfl (E rfl rfl) (E rfl rfl)) ?_
  refine AWL.y rfl rfl (B rfl) (Yv.assign rfl (E rfl rfl)) ?_
  refine AWL.nil ?_
  refine AW.cond rfl (fun h5t => ?_) (fun h5f => ?_)
  ·
   try replace h5t := of_decide_eq_true h5t
   refine AW.rseq ?_
   refine AWL.y rfl rfl (B rfl) (Yv.move rfl (E rfl rfl)) ?_
   refine AWL.call rfl rfl (B rfl) rfl ce_63 (E rfl rfl) (evsC (E rfl rfl) (evsC (E rfl rfl) evs0)) (S1 := [Ent.box b 68 (rdCells bs (nextF bs r).2)]) (S2 := _) rfl (imm68 b bs (nextF bs r).2 hb hok1 4 (.inr (.inl rfl))) ?_
   rintro t54 S54 ⟨rfl, rfl⟩
   refine AWL.y rfl rfl (B rfl) (Yv.buildS rfl sh_23 (evpC (E rfl rfl) (evpC (E rfl rfl) (evpC (E rfl rfl) evp0))) (fun _ => rfl)) ?_
   refine AWL.storeBox (i := 1) rfl rfl rfl ag_23 rfl (E rfl rfl) (E rfl rfl) rfl rfl (Nat.le_of_ble_eq_true rfl) ?_
   refine AWL.nil ?_
   refine AW.ret (retI (.cellA (i := 1) rfl ag_23 rfl rfl rfl .nil) ?_)
   rw [insR, if_neg (ne_true_of_eq_false h0f), insIn, if_neg h1f, if_neg (ne_true_of_eq_false h2f), if_neg h3f, if_neg h4f, if_pos h5t]
   exact ⟨rfl, _, rfl⟩
  try replace h5f := of_decide_eq_false h5f
  refine AW.rseq ?_
  refine AWL.y rfl rfl (B rfl) (Yv.eql rfl (E rfl rfl) (E rfl rfl)) ?_
  refine AWL.y rfl rfl (B rfl) (Yv.assign rfl (E rfl rfl)) ?_
  refine AWL.nil ?_
  refine AW.cond rfl (fun h6t => ?_) (fun h6f => ?_)
  ·
   try replace h6t := of_decide_eq_true h6t
   refine AW.rseq ?_
   refine AWL.y rfl rfl (B rfl) (Yv.move rfl (E rfl rfl)) ?_
   refine AWL.call rfl rfl (B rfl) rfl ce_63 (E rfl rfl) (evsC (E rfl rfl) (evsC (E rfl rfl) evs0)) (S1 := [Ent.box b 68 (rdCells bs (nextF bs r).2)]) (S2 := _) rfl (imm68 b bs (nextF bs r).2 hb hok1 4 (.inr (.inl rfl))) ?_
   rintro t59 S59 ⟨rfl, rfl⟩
   refine AWL.y rfl rfl (B rfl) (Yv.buildS rfl sh_23 (evpC (E rfl rfl) (evpC (E rfl rfl) evp0)) (fun _ => rfl)) ?_
   refine AWL.storeBox (i := 1) rfl rfl rfl ag_23 rfl (E rfl rfl) (E rfl rfl) rfl rfl (Nat.le_of_ble_eq_true rfl) ?_
   refine AWL.nil ?_
   refine AW.ret (retI (.cellA (i := 1) rfl ag_23 rfl rfl rfl .nil) ?_)
   rw [insR, if_neg (ne_true_of_eq_false h0f), insIn, if_neg h1f, if_neg (ne_true_of_eq_false h2f), if_neg h3f, if_neg h4f, if_neg h5f, if_pos h6t]
   exact ⟨rfl, _, rfl⟩
  try replace h6f := of_decide_eq_false h6f
  refine AW.rseq ?_
  refine AWL.y rfl rfl (B rfl) (Yv.eql rfl (E rfl rfl) (E rfl rfl)) ?_
  refine AWL.y rfl rfl (B rfl) (Yv.assign rfl (E rfl rfl)) ?_
  refine AWL.nil ?_
  refine AW.cond rfl (fun h7t => ?_) (fun h7f => ?_)
  ·
   try replace h7t := of_decide_eq_true h7t
   refine AW.rseq ?_
   refine AWL.y rfl rfl (B rfl) (Yv.buildS rfl sh_23 (evpC (E rfl rfl) evp0) (fun _ => rfl)) ?_
   refine AWL.storeBox (i := 1) rfl rfl rfl ag_23 rfl (E rfl rfl) (E rfl rfl) rfl rfl (Nat.le_of_ble_eq_true rfl) ?_
   refine AWL.nil ?_
   refine AW.ret (retI (.cellA (i := 1) rfl ag_23 rfl rfl rfl .nil) ?_)
   rw [insR, if_neg (ne_true_of_eq_false h0f), insIn, if_neg h1f, if_neg (ne_true_of_eq_false h2f), if_neg h3f, if_neg h4f, if_neg h5f, if_neg h6f, if_pos h7t]
   exact ⟨rfl, _, rfl⟩
  try replace h7f := of_decide_eq_false h7f
  refine AW.rseq ?_
  refine AWL.y rfl rfl (B rfl) (Yv.eql rfl (E rfl rfl) (E rfl rfl)) ?_
  refine AWL.y rfl rfl (B rfl) (Yv.assign rfl (E rfl rfl)) ?_
  refine AWL.nil ?_
  refine AW.cond rfl (fun h8t => ?_) (fun h8f => ?_)
  ·
   try replace h8t := of_decide_eq_true h8t
   refine AW.rseq ?_
   refine AWL.y rfl rfl (B rfl) (Yv.move rfl (E rfl rfl)) ?_
   refine AWL.call rfl rfl (B rfl) rfl ce_58 (E rfl rfl) (evsC (E rfl rfl) evs0) (S1 := [Ent.box b 68 (rdCells bs (nextF bs r).2)]) (S2 := _) rfl (next63 b bs (nextF bs r).2 hb hok1) ?_
   rintro t67 S67 ⟨rfl, rfl⟩
   refine AWL.y rfl rfl (B rfl) (Yv.assign rfl (E rfl rfl)) ?_
   refine AWL.nil ?_
   refine AW.block ?_
   refine AW.rseq ?_
   refine AWL.y rfl rfl (B rfl) (Yv.move rfl (E rfl rfl)) ?_
   refine AWL.y rfl rfl (B rfl) (Yv.eql rfl (E rfl rfl) (E rfl rfl)) ?_
   refine AWL.y rfl rfl (B rfl) (Yv.assign rfl (E rfl rfl)) ?_
   refine AWL.nil ?_
   refine AW.cond rfl (fun h9t => ?_) (fun h9f => ?_)
   ·
    try replace h9t := of_decide_eq_true h9t
    refine AW.rseq ?_
    refine AWL.y rfl rfl (B rfl) (Yv.buildS rfl sh_23 (evpC (E rfl rfl) evp0) (fun _ => rfl)) ?_
    refine AWL.storeBox (i := 1) rfl rfl rfl ag_23 rfl (E rfl rfl) (E rfl rfl) rfl rfl (Nat.le_of_ble_eq_true rfl) ?_
    refine AWL.nil ?_
    refine AW.ret (retI (.cellA (i := 1) rfl ag_23 rfl rfl rfl .nil) ?_)
    rw [insR, if_neg (ne_true_of_eq_false h0f), insIn, if_neg h1f, if_neg (ne_true_of_eq_false h2f), if_neg h3f, if_neg h4f, if_neg h5f, if_neg h6f, if_neg h7f, if_pos h8t, insTwo, if_pos h9t]
    exact ⟨rfl, _, rfl⟩
   try replace h9f := of_decide_eq_false h9f
   refine AW.rseq ?_
   refine AWL.y rfl rfl (B rfl) (Yv.move rfl (E rfl rfl)) ?_
   refine AWL.y rfl rfl (B rfl) (Yv.eql rfl (E rfl rfl) (E rfl rfl)) ?_
   refine AWL.y rfl rfl (B rfl) (Yv.assign rfl (E rfl rfl)) ?_
   refine AWL.nil ?_
   refine AW.cond rfl (fun h10t => ?_) (fun h10f => ?_)
   ·
    try replace h10t := of_decide_eq_true h10t
    refine AW.rseq ?_
    refine AWL.y rfl rfl (B rfl) (Yv.buildS rfl sh_23 (evpC (E rfl rfl) evp0) (fun _ => rfl)) ?_
    refine AWL.storeBox (i := 1) rfl rfl rfl ag_23 rfl (E rfl rfl) (E rfl rfl) rfl rfl (Nat.le_of_ble_eq_true rfl) ?_
    refine AWL.nil ?_
    refine AW.ret (retI (.cellA (i := 1) rfl ag_23 rfl rfl rfl .nil) ?_)
    rw [insR, if_neg (ne_true_of_eq_false h0f), insIn, if_neg h1f, if_neg (ne_true_of_eq_false h2f), if_neg h3f, if_neg h4f, if_neg h5f, if_neg h6f, if_neg h7f, if_pos h8t, insTwo, if_neg h9f, if_pos h10t]
    exact ⟨rfl, _, rfl⟩
   try replace h10f := of_decide_eq_false h10f
   refine AW.rseq ?_
   refine AWL.y rfl rfl (B rfl) (Yv.move rfl (E rfl rfl)) ?_
   refine AWL.y rfl rfl (B rfl) (Yv.bits rfl rfl (E rfl rfl) (E rfl rfl)) ?_
   refine AWL.y rfl rfl (B rfl) (Yv.eql rfl (E rfl rfl) (E rfl rfl)) ?_
   refine AWL.y rfl rfl (B rfl) (Yv.assign rfl (E rfl rfl)) ?_
   refine AWL.nil ?_
   refine AW.cond rfl (fun h11t => ?_) (fun h11f => ?_)
   ·
    try replace h11t := of_decide_eq_true h11t
    refine AW.rseq ?_
    refine AWL.y rfl rfl (B rfl) (Yv.move rfl (E rfl rfl)) ?_
    refine AWL.y rfl rfl (B rfl) (Yv.andN_i64 4 16 (by decide) (by decide) (by decide) rfl (E rfl rfl) (E rfl rfl) (fun hg => ⟨by omega, by omega⟩)) ?_
    refine AWL.y rfl rfl (B rfl) (Yv.move rfl (E rfl rfl)) ?_
    refine AWL.call rfl rfl (B rfl) rfl ce_63 (E rfl rfl) (evsC (E rfl rfl) (evsC (E rfl rfl) evs0)) (S1 := [Ent.box b 68 (rdCells bs (nextF bs (nextF bs r).2).2)]) (S2 := _) rfl (imm68 b bs (nextF bs (nextF bs r).2).2 hb hok2 4 (.inr (.inl rfl))) ?_
    rintro t83 S83 ⟨rfl, rfl⟩
    refine AWL.y rfl rfl (B rfl) (Yv.buildS rfl sh_23 (evpC (E rfl rfl) (evpC (E rfl rfl) (evpC (E rfl rfl) (evpC (E rfl rfl) evp0)))) (fun _ => rfl)) ?_
    refine AWL.storeBox (i := 1) rfl rfl rfl ag_23 rfl (E rfl rfl) (E rfl rfl) rfl rfl (Nat.le_of_ble_eq_true rfl) ?_
    refine AWL.nil ?_
    refine AW.ret (retI (.cellA (i := 1) rfl ag_23 rfl rfl rfl .nil) ?_)
    rw [insR, if_neg (ne_true_of_eq_false h0f), insIn, if_neg h1f, if_neg (ne_true_of_eq_false h2f), if_neg h3f, if_neg h4f, if_neg h5f, if_neg h6f, if_neg h7f, if_pos h8t, insTwo, if_neg h9f, if_neg h10f, if_pos h11t]
    exact ⟨rfl, _, rfl⟩
   try replace h11f := of_decide_eq_false h11f
   refine AW.skip ?_
   refine AW.rseq ?_
   refine AWL.y rfl rfl (B rfl) (Yv.move rfl (E rfl rfl)) ?_
   refine AWL.call rfl rfl (B rfl) rfl ce_59 (E rfl rfl) (evsC (E rfl rfl) (evsC (E rfl rfl) evs0)) (S1 := [Ent.box b 68 (rdCells bs (nextF bs (nextF bs r).2).2)]) (S2 := _) rfl (must64 b bs (nextF bs (nextF bs r).2).2 false) ?_
   rintro t86 S86 rfl
   refine AWL.nil ?_
   refine AW.rseq ?_
   refine AWL.y rfl rfl (B rfl) (Yv.buildS rfl sh_23 evp0 (fun _ => rfl)) ?_
   refine AWL.storeBox (i := 1) rfl rfl rfl ag_23 rfl (E rfl rfl) (E rfl rfl) rfl rfl (Nat.le_of_ble_eq_true rfl) ?_
   refine AWL.nil ?_
   refine AW.ret (retI (.cellA (i := 1) rfl ag_23 rfl rfl rfl .nil) ?_)
   rw [insR, if_neg (ne_true_of_eq_false h0f), insIn, if_neg h1f, if_neg (ne_true_of_eq_false h2f), if_neg h3f, if_neg h4f, if_neg h5f, if_neg h6f, if_neg h7f, if_pos h8t, insTwo, if_neg h9f, if_neg h10f, if_neg h11f]
   exact ⟨rfl, _, rfl⟩
  try replace h8f := of_decide_eq_false h8f
  refine AW.skip ?_
  refine AW.rseq ?_
  refine AWL.y rfl rfl (B rfl) (Yv.move rfl (E rfl rfl)) ?_
  refine AWL.call rfl rfl (B rfl) rfl ce_59 (E rfl rfl) (evsC (E rfl rfl) (evsC (E rfl rfl) evs0)) (S1 := [Ent.box b 68 (rdCells bs (nextF bs r).2)]) (S2 := _) rfl (must64 b bs (nextF bs r).2 false) ?_
  rintro t86 S86 rfl
  refine AWL.nil ?_
  refine AW.rseq ?_
  refine AWL.y rfl rfl (B rfl) (Yv.buildS rfl sh_23 evp0 (fun _ => rfl)) ?_
  refine AWL.storeBox (i := 1) rfl rfl rfl ag_23 rfl (E rfl rfl) (E rfl rfl) rfl rfl (Nat.le_of_ble_eq_true rfl) ?_
  refine AWL.nil ?_
  refine AW.ret (retI (.cellA (i := 1) rfl ag_23 rfl rfl rfl .nil) ?_)
  rw [insR, if_neg (ne_true_of_eq_false h0f), insIn, if_neg h1f, if_neg (ne_true_of_eq_false h2f), if_neg h3f, if_neg h4f, if_neg h5f, if_neg h6f, if_neg h7f, if_neg h8f]
  exact ⟨rfl, _, rfl⟩

set_option maxHeartbeats 2000000 in
theorem Decode42 (bs : List UInt8) (hb : bs.length ≤ 1099511627776) :
    ACalls Tryd.prog 17 [u8s bs] [] (fun t_ S => t_ = .tup [insT (decI bs), .v (.int .i64 (decN bs : Int)), .v (.int .i64 (decE bs))]) := by
  refine ACalls.intro Tryd.func17 rfl Tryd.ntmps17 (Nat.le_of_ble_eq_true rfl) rfl fun X w0 => ?_
  refine AW.rseq ?_
  refine AWL.allocOp rfl rfl (B rfl) rfl zc_23 (fun b2 => ?_)
  refine AWL.y rfl rfl (B rfl) (Yv.assign rfl (E rfl rfl)) ?_
  refine AWL.y rfl rfl (B rfl) (Yv.assign rfl (E rfl rfl)) ?_
  refine AWL.nil ?_
  refine AW.rseq ?_
  refine AWL.y rfl rfl (B rfl) (Yv.move rfl (E rfl rfl)) ?_
  refine AWL.y rfl rfl (B rfl) (Yv.buildS rfl sh_68 (evpC (E rfl rfl) evp0) (fun _ => rfl)) ?_
  refine AWL.boxOp rfl rfl (B rfl) rfl (E rfl rfl) rfl (fun b9 => ?_)
  refine AWL.y rfl rfl (B rfl) (Yv.assign rfl (E rfl rfl)) ?_
  refine AWL.nil ?_
  refine AW.perm (S' := [.box b9 68 (rdCells bs rd0), .box b2 23 (insCells nilI)]) (List.Perm.swap _ _ []) ?_
  refine AW.rseq ?_
  refine AWL.y rfl rfl (B rfl) (Yv.move rfl (E rfl rfl)) ?_
  refine AWL.call rfl rfl (B rfl) rfl ce_44 (E rfl rfl) (evsC (E rfl rfl) evs0) (S1 := [Ent.box b9 68 (rdCells bs rd0)]) (S2 := _) rfl (instruction54 b9 bs rd0 hb (Nat.zero_le _)) ?_
  rintro t11 S11 ⟨rfl, E11, rfl⟩
  refine AWL.tuck ?_
  refine AWL.allocOp rfl rfl (B rfl) rfl zc_23 (fun b6 => ?_)
  refine AWL.perm (S' := [Ent.box b9 68 (rdCells bs (insR bs rd0).2), .box b2 23 (insCells nilI), .box b6 23 (insCells nilI)] ++ E11) (List.Perm.append_left [_, _] (List.perm_append_comm (l₁ := [_]) (l₂ := E11))) ?_
  refine AWL.storeBox (i := 2) rfl rfl rfl ag_23 rfl (E rfl rfl) (E rfl rfl) rfl rfl (Nat.le_of_ble_eq_true rfl) ?_
  refine AWL.nil ?_
  refine AW.seq ?_
  refine AW.block ?_
  refine AW.rseq ?_
  refine AWL.y rfl rfl (B rfl) (Yv.move rfl (E rfl rfl)) ?_
  refine AWL.y rfl rfl (B rfl) (Yv.nilChk rfl (E rfl rfl)) ?_
  refine AWL.y rfl rfl (B rfl) (Yv.fieldBox rfl fo_68_3 (E rfl rfl)) ?_
  refine AWL.y rfl rfl (B rfl) (Yv.loadBox rfl ag_4 (i := 0) rfl (E rfl rfl) rfl) ?_
  refine AWL.y rfl rfl (B rfl) (Yv.assign rfl (E rfl rfl)) ?_
  refine AWL.nil ?_
  refine AW.cond rfl (fun h0t => ?_) (fun h0f => ?_)
  ·
   try replace h0t := of_decide_eq_true h0t
   refine AW.rseq ?_
   refine AWL.y rfl rfl (B rfl) (Yv.buildS rfl sh_23 evp0 (fun _ => rfl)) ?_
   refine AWL.storeBox (i := 1) rfl rfl rfl ag_23 rfl (E rfl rfl) (E rfl rfl) rfl rfl (Nat.le_of_ble_eq_true rfl) ?_
   refine AWL.y rfl rfl (B rfl) (Yv.assign rfl (E rfl rfl)) ?_
   refine AWL.y rfl rfl (B rfl) (Yv.assign rfl (E rfl rfl)) ?_
   refine AWL.nil ?_
   refine AW.ret (retI (.cellA (i := 1) rfl ag_23 rfl rfl rfl (.tmp rfl (.tmp rfl .nil))) ?_)
   rw [decI, if_pos (.inl h0t), decN, if_pos (.inl h0t), decE, if_pos h0t]
   rfl
  try replace h0f := of_decide_eq_false h0f
  refine AW.rseq ?_
  refine AWL.y rfl rfl (B rfl) (Yv.move rfl (E rfl rfl)) ?_
  refine AWL.y rfl rfl (B rfl) (Yv.nilChk rfl (E rfl rfl)) ?_
  refine AWL.y rfl rfl (B rfl) (Yv.fieldBox rfl fo_68_2 (E rfl rfl)) ?_
  refine AWL.y rfl rfl (B rfl) (Yv.loadBox rfl ag_4 (i := 0) rfl (E rfl rfl) rfl) ?_
  refine AWL.y rfl rfl (B rfl) (Yv.assign rfl (E rfl rfl)) ?_
  refine AWL.nil ?_
  refine AW.cond rfl (fun h1t => ?_) (fun h1f => ?_)
  ·
   try replace h1t := of_decide_eq_true h1t
   refine AW.rseq ?_
   refine AWL.y rfl rfl (B rfl) (Yv.buildS rfl sh_23 evp0 (fun _ => rfl)) ?_
   refine AWL.storeBox (i := 1) rfl rfl rfl ag_23 rfl (E rfl rfl) (E rfl rfl) rfl rfl (Nat.le_of_ble_eq_true rfl) ?_
   refine AWL.y rfl rfl (B rfl) (Yv.assign rfl (E rfl rfl)) ?_
   refine AWL.y rfl rfl (B rfl) (Yv.assign rfl (E rfl rfl)) ?_
   refine AWL.nil ?_
   refine AW.ret (retI (.cellA (i := 1) rfl ag_23 rfl rfl rfl (.tmp rfl (.tmp rfl .nil))) ?_)
   rw [decI, if_pos (.inr h1t), decN, if_pos (.inr h1t), decE, if_neg (ne_true_of_eq_false h0f), if_pos h1t]
   rfl
  try replace h1f := of_decide_eq_false h1f
  refine AW.skip ?_
  refine AW.rseqH (HeldBox b6 (insVals (insR bs rd0).1)) rfl (tells_box (k := 2) rfl) ?_
  refine AWH.tk (i := 0) rfl rfl rfl (B rfl) (heldLoadA rfl ag_23 (E rfl rfl) rfl rfl rfl rfl) ?_
  refine AWH.tk (i := 1) rfl rfl rfl (B rfl) (heldAll (freeMove rfl (E rfl rfl))) ?_
  refine AWH.tk (i := 2) rfl rfl rfl (B rfl) (heldAll (freeNil rfl (E rfl rfl))) ?_
  refine AWH.tk (i := 3) rfl rfl rfl (B rfl) (heldAll (freeField rfl fo_68_1 (E rfl rfl))) ?_
  refine AWH.two (i := 4) (j := 5) (by kernel_rfl) rfl rfl ?_ ?_
  ·
   refine AWL.y rfl rfl (B rfl) (Yv.loadBox rfl ag_3 (i := 0) rfl (E rfl rfl) rfl) ?_
   refine tb 2 rfl ?_
   refine AWH.one (i := 5) (by kernel_rfl) rfl ?_
   refine AWL.storeBox (i := 1) rfl rfl rfl ag_23 rfl (E rfl rfl) (E rfl rfl) rfl rfl (Nat.le_of_ble_eq_true rfl) ?_
   refine tb 2 rfl ?_
   refine AWH.one (i := 6) (by kernel_rfl) rfl ?_
   refine AWL.y rfl rfl (B rfl) (Yv.assign rfl (E rfl rfl)) ?_
   refine tb 2 rfl ?_
   refine AWH.one (i := 7) (by kernel_rfl) rfl ?_
   refine AWL.y rfl rfl (B rfl) (Yv.assign rfl (E rfl rfl)) ?_
   refine tb 2 rfl ?_
   refine AWH.done (by kernel_rfl) ?_
   refine AW.ret (retI (.cellA (i := 1) rfl ag_23 rfl rfl rfl (.tmp rfl (.tmp rfl .nil))) ?_)
   have hno : ¬ ((insR bs rd0).2.wrong = true ∨ (insR bs rd0).2.cut = true) := by rw [h0f, h1f]; simp
   rw [decI, if_neg hno, decN, if_neg hno, decE, if_neg (ne_true_of_eq_false h0f), if_neg (ne_true_of_eq_false h1f)]
   rfl
  ·
   refine AWL.storeBox (i := 1) rfl rfl rfl ag_23 rfl (E rfl rfl) (E rfl rfl) rfl rfl (Nat.le_of_ble_eq_true rfl) ?_
   refine tb 2 rfl ?_
   refine AWH.one (i := 4) (by kernel_rfl) rfl ?_
   refine AWL.y rfl rfl (B rfl) (Yv.loadBox rfl ag_3 (i := 0) rfl (E rfl rfl) rfl) ?_
   refine tb 2 rfl ?_
   refine AWH.one (i := 6) (by kernel_rfl) rfl ?_
   refine AWL.y rfl rfl (B rfl) (Yv.assign rfl (E rfl rfl)) ?_
   refine tb 2 rfl ?_
   refine AWH.one (i := 7) (by kernel_rfl) rfl ?_
   refine AWL.y rfl rfl (B rfl) (Yv.assign rfl (E rfl rfl)) ?_
   refine tb 2 rfl ?_
   refine AWH.done (by kernel_rfl) ?_
   refine AW.ret (retI (.cellA (i := 1) rfl ag_23 rfl rfl rfl (.tmp rfl (.tmp rfl .nil))) ?_)
   have hno : ¬ ((insR bs rd0).2.wrong = true ∨ (insR bs rd0).2.cut = true) := by rw [h0f, h1f]; simp
   rw [decI, if_neg hno, decN, if_neg hno, decE, if_neg (ne_true_of_eq_false h0f), if_neg (ne_true_of_eq_false h1f)]
   rfl

end Go.Proofs.YtjndpakhmgapjaaDoor
