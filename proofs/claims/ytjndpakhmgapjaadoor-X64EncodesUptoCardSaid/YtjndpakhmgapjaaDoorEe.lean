/-
  TEXTS JOINED: Wk20, Wk21, Text, WkK, Asm, Grow, Res, Num, Tab, WkT, Form, Wk13.
-/
import Derived.Lib.ItoaLen
import Derived.Lib.ItoaNum
import Derived.Shelf.LaysM
import Derived.Shelf.Strconv.Itoa4
import Derived.Test.YtjndpakhmgapjaaDoorProg
import Derived.Test.YtjndpakhmgapjaaDoorEd
set_option linter.unusedSimpArgs false
set_option linter.unusedVariables false
set_option linter.unusedSectionVars false
set_option linter.unnecessarySimpa false
namespace Go.Proofs.YtjndpakhmgapjaaDoor
open Go Go.RowKit
set_option linter.unusedVariables false
set_option linter.unnecessarySimpa false
set_option linter.unusedSimpArgs false

set_option maxHeartbeats 1000000 in
theorem moved75 (b : Nat) (bs : List UInt8) (r : Rd) (hb : bs.length ≤ 1099511627776) (hr : RdOk bs r) (x : Rx) :
    ACalls Tryd.prog 75 [.v (.pointer (some ⟨b, 0, none⟩)), rxT x] [Ent.box b 68 (rdCells bs r)] (fun t_ S => t_ = insT (movedR bs x r).1 ∧ ∃ E, S = Ent.box b 68 (rdCells bs (movedR bs x r).2) :: E) := by
  refine ACalls.intro Tryd.func75 rfl Tryd.ntmps75 (Nat.le_of_ble_eq_true rfl) rfl fun X w0 => ?_
  refine AW.rseq ?_
  refine AWL.boxOp rfl rfl (B rfl) rfl (E rfl rfl) rfl (fun b3 => ?_)
  refine AWL.allocOp rfl rfl (B rfl) rfl zc_23 (fun b4 => ?_)
  refine AWL.nil ?_
  refine AW.seq ?_
  refine AW.rseqQ rfl (by kernel_rfl) ?_
  refine AWQ.y rfl rfl (B rfl) (Yv.move rfl (E rfl rfl)) ?_
  refine AWQ.y rfl rfl (B rfl) (Yv.nilChk rfl (E rfl rfl)) ?_
  refine AWQ.y rfl rfl (B rfl) (Yv.fieldBox rfl fo_68_1 (E rfl rfl)) ?_
  refine AWQ.y rfl rfl (B rfl) (Yv.loadBox rfl ag_3 (i := 0) rfl (E rfl rfl) rfl) ?_
  refine AWQ.y rfl rfl (B rfl) (Yv.move rfl (E rfl rfl)) ?_
  refine AWQ.y rfl rfl (B rfl) (Yv.nilChk rfl (E rfl rfl)) ?_
  refine AWQ.y rfl rfl (B rfl) (Yv.fieldBox rfl fo_68_0 (E rfl rfl)) ?_
  refine AWQ.y rfl rfl (B rfl) (Yv.loadBox rfl ag_24 (i := 0) rfl (E rfl rfl) rfl) ?_
  refine AWQ.y rfl rfl (B rfl) (Yv.lenSl rfl so_24 (B rfl) (E rfl rfl) len_u8s) ?_
  refine AWQ.y rfl rfl (B rfl) (Yv.lss rfl (E rfl rfl) (E rfl rfl)) ?_
  refine AWQ.y rfl rfl (B rfl) (Yv.move rfl (E rfl rfl)) ?_
  refine AWQ.ygT rfl rfl rfl rfl (B rfl) (Yv.move rfl (E rfl rfl)) ?_
  refine AWQ.ygT rfl rfl rfl rfl (B rfl) (Yv.nilChk rfl (Eg rfl rfl id)) ?_
  refine AWQ.ygT rfl rfl rfl rfl (B rfl) (Yv.fieldBox rfl fo_68_0 (Eg rfl rfl id)) ?_
  refine AWQ.ygT rfl rfl rfl rfl (B rfl) (Yv.loadBox rfl ag_24 (i := 0) rfl (Eg rfl rfl id) rfl) ?_
  refine AWQ.ygT rfl rfl rfl rfl (B rfl) (Yv.move rfl (E rfl rfl)) ?_
  refine AWQ.ygT rfl rfl rfl rfl (B rfl) (Yv.nilChk rfl (Eg rfl rfl id)) ?_
  refine AWQ.ygT rfl rfl rfl rfl (B rfl) (Yv.fieldBox rfl fo_68_1 (Eg rfl rfl id)) ?_
  refine AWQ.ygT rfl rfl rfl rfl (B rfl) (Yv.loadBox rfl ag_3 (i := 0) rfl (Eg rfl rfl id) rfl) ?_
  refine AWQ.ygT rfl rfl rfl rfl (B rfl) (Yv.indexSl rfl ss_24 (B rfl) (Eg rfl rfl id) (Eg rfl rfl id) (fun hg => ⟨rfl, (by first | omega | (simp only [len_u8s, len_ints]; omega) | (simp only [len_u8s, len_ints]; simp only [Bool.and_eq_true, Bool.or_eq_false_iff, Bool.not_eq_true', Bool.not_eq_false', decide_eq_true_eq, decide_eq_false_iff_not] at hg; omega))⟩)) ?_
  refine AWQ.ygT rfl rfl rfl rfl (B rfl) (Yv.loadRp rfl ag_5 (Eg rfl rfl id) (fun hg => u8_get (by simp only [Bool.true_and, decide_eq_true_eq] at hg; omega))) ?_
  refine AWQ.ygT rfl rfl rfl rfl (B rfl) (Yv.shrC 64 (by decide) (by decide) (by decide) rfl (Eg rfl rfl id) (E rfl rfl)) ?_
  refine AWQ.ygT rfl rfl rfl rfl (B rfl) (Yv.eql rfl (Eg rfl rfl id) (E rfl rfl)) ?_
  refine AWQ.y rfl rfl (B rfl) (Yv.pickAnd rfl (E rfl rfl) (Eg rfl rfl id)) ?_
  refine AWQ.nil ?_
  refine AW.cond rfl (fun h0t => ?_) (fun h0f => ?_)
  ·
   try replace h0t := of_decide_eq_true h0t
   refine AW.rseq ?_
   refine AWL.y rfl rfl (B rfl) (Yv.move rfl (E rfl rfl)) ?_
   refine AWL.y rfl rfl (B rfl) (Yv.loadBoxA rfl ag_87 (i := 1) rfl (E rfl rfl) rfl rfl) ?_
   refine AWL.call rfl rfl (B rfl) rfl ce_74 (E rfl rfl) (evsC (E rfl rfl) (evsC (E rfl rfl) evs0)) (S1 := [Ent.box b 68 (rdCells bs r)]) (S2 := _) rfl (mem74 b bs r hb hr x) ?_
   rintro t37 S37 ⟨rfl, E37, rfl⟩
   refine AWL.tuck ?_
   refine AWL.y rfl rfl (B rfl) (Yv.move rfl (E rfl rfl)) ?_
   refine AWL.y rfl rfl (B rfl) (Yv.extract rfl (E rfl rfl) rfl) ?_
   refine AWL.y rfl rfl (B rfl) (Yv.extract rfl (E rfl rfl) rfl) ?_
   refine AWL.y rfl rfl (B rfl) (Yv.extract rfl (E rfl rfl) rfl) ?_
   refine AWL.y rfl rfl (B rfl) (Yv.assign rfl (E rfl rfl)) ?_
   refine AWL.y rfl rfl (B rfl) (Yv.assign rfl (E rfl rfl)) ?_
   refine AWL.y rfl rfl (B rfl) (Yv.assign rfl (E rfl rfl)) ?_
   refine AWL.nil ?_
   refine AW.rseq ?_
   refine AWL.y rfl rfl (B rfl) (Yv.move rfl (E rfl rfl)) ?_
   refine AWL.y rfl rfl (B rfl) (Yv.move rfl (E rfl rfl)) ?_
   refine AWL.y rfl rfl (B rfl) (Yv.move rfl (E rfl rfl)) ?_
   refine AWL.y rfl rfl (B rfl) (Yv.buildS rfl sh_23 (evpC (E rfl rfl) (evpC (E rfl rfl) (evpC (E rfl rfl) (evpC (E rfl rfl) (evpC (E rfl rfl) evp0))))) (fun _ => rfl)) ?_
   refine AWL.storeBox (i := 2) rfl rfl rfl ag_23 rfl (E rfl rfl) (E rfl rfl) rfl rfl (Nat.le_of_ble_eq_true rfl) ?_
   refine AWL.nil ?_
   refine AW.ret (retI (.cellA (i := 2) rfl ag_23 rfl rfl rfl .nil) ?_)
   rw [movedR, if_pos (show peekF bs r = true from h0t)]
   exact ⟨rfl, _, rfl⟩
  try replace h0f := of_decide_eq_false h0f
  refine AW.skip ?_
  refine AW.rseq ?_
  refine AWL.y rfl rfl (B rfl) (Yv.move rfl (E rfl rfl)) ?_
  refine AWL.y rfl rfl (B rfl) (Yv.loadBoxA rfl ag_87 (i := 1) rfl (E rfl rfl) rfl rfl) ?_
  refine AWL.call rfl rfl (B rfl) rfl ce_78 (E rfl rfl) (evsC (E rfl rfl) (evsC (E rfl rfl) evs0)) (S1 := [Ent.box b 68 (rdCells bs r)]) (S2 := _) rfl (two78 b bs r hb hr x) ?_
  rintro t48 S48 ⟨rfl, E48, rfl⟩
  refine AWL.tuck ?_
  refine AWL.y rfl rfl (B rfl) (Yv.move rfl (E rfl rfl)) ?_
  refine AWL.y rfl rfl (B rfl) (Yv.extract rfl (E rfl rfl) rfl) ?_
  refine AWL.y rfl rfl (B rfl) (Yv.extract rfl (E rfl rfl) rfl) ?_
  refine AWL.y rfl rfl (B rfl) (Yv.assign rfl (E rfl rfl)) ?_
  refine AWL.y rfl rfl (B rfl) (Yv.assign rfl (E rfl rfl)) ?_
  refine AWL.nil ?_
  refine AW.rseq ?_
  refine AWL.y rfl rfl (B rfl) (Yv.move rfl (E rfl rfl)) ?_
  refine AWL.y rfl rfl (B rfl) (Yv.move rfl (E rfl rfl)) ?_
  refine AWL.y rfl rfl (B rfl) (Yv.buildS rfl sh_23 (evpC (E rfl rfl) (evpC (E rfl rfl) (evpC (E rfl rfl) evp0))) (fun _ => rfl)) ?_
  refine AWL.storeBox (i := 2) rfl rfl rfl ag_23 rfl (E rfl rfl) (E rfl rfl) rfl rfl (Nat.le_of_ble_eq_true rfl) ?_
  refine AWL.nil ?_
  refine AW.ret (retI (.cellA (i := 2) rfl ag_23 rfl rfl rfl .nil) ?_)
  rw [movedR, if_neg (show ¬ peekF bs r = true from ne_true_of_eq_false h0f)]
  exact ⟨rfl, _, rfl⟩

set_option maxHeartbeats 2000000 in
theorem numbered77 (b : Nat) (bs : List UInt8) (r : Rd) (hb : bs.length ≤ 1099511627776) (hr : RdOk bs r) (x : Rx) (op : Int) :
    ACalls Tryd.prog 77 [.v (.pointer (some ⟨b, 0, none⟩)), rxT x, .v (.int .i64 op)] [Ent.box b 68 (rdCells bs r)] (fun t_ S => t_ = insT (numberedR bs x op r).1 ∧ ∃ E, S = Ent.box b 68 (rdCells bs (numberedR bs x op r).2) :: E) := by
  have hok1 : RdOk bs (numD1 bs x op r) := must_ok (one_ok hr x) _
  refine ACalls.intro Tryd.func77 rfl Tryd.ntmps77 (Nat.le_of_ble_eq_true rfl) rfl fun X w0 => ?_
  refine AW.rseq ?_
  refine AWL.boxOp rfl rfl (B rfl) rfl (E rfl rfl) rfl (fun b4 => ?_)
  refine AWL.allocOp rfl rfl (B rfl) rfl zc_23 (fun b6 => ?_)
  refine AWL.nil ?_
  refine AW.rseq ?_
  refine AWL.y rfl rfl (B rfl) (Yv.move rfl (E rfl rfl)) ?_
  refine AWL.y rfl rfl (B rfl) (Yv.loadBoxA rfl ag_87 (i := 1) rfl (E rfl rfl) rfl rfl) ?_
  refine AWL.call rfl rfl (B rfl) rfl ce_76 (E rfl rfl) (evsC (E rfl rfl) (evsC (E rfl rfl) evs0)) (S1 := [Ent.box b 68 (rdCells bs r)]) (S2 := _) rfl (one76 b bs r hb hr x) ?_
  rintro t18 S18 ⟨rfl, E18, rfl⟩
  refine AWL.tuck ?_
  refine AWL.y rfl rfl (B rfl) (Yv.move rfl (E rfl rfl)) ?_
  refine AWL.y rfl rfl (B rfl) (Yv.extract rfl (E rfl rfl) rfl) ?_
  refine AWL.y rfl rfl (B rfl) (Yv.extract rfl (E rfl rfl) rfl) ?_
  refine AWL.y rfl rfl (B rfl) (Yv.assign rfl (E rfl rfl)) ?_
  refine AWL.y rfl rfl (B rfl) (Yv.assign rfl (E rfl rfl)) ?_
  refine AWL.nil ?_
  refine AW.rseq ?_
  refine AWL.y rfl rfl (B rfl) (Yv.assign rfl (E rfl rfl)) ?_
  refine AWL.nil ?_
  refine AW.seq ?_
  refine AW.rseq ?_
  refine AWL.buildSlice1 rfl rfl (B rfl) rfl el_43 rfl (evsC (E rfl rfl) (evsC (E rfl rfl) (evsC (E rfl rfl) (evsC (E rfl rfl) (evsC (E rfl rfl) (evsC (E rfl rfl) (evsC (E rfl rfl) (evsC (E rfl rfl) (evsC (E rfl rfl) (evsC (E rfl rfl) (evsC (E rfl rfl) (evsC (E rfl rfl) (evsC (E rfl rfl) (evsC (E rfl rfl) (evsC (E rfl rfl) (evsC (E rfl rfl) evs0)))))))))))))))) (Nat.le_of_ble_eq_true rfl) rfl rfl ?_
  refine AWL.y rfl rfl (B rfl) (Yv.lenSl rfl so_43 (B rfl) (E rfl rfl) (show _ = 16 * 1 from rfl)) ?_
  refine AWL.y rfl rfl (B rfl) (Yv.move rfl (E rfl rfl)) ?_
  refine AWL.nil ?_
  refine AW.block ?_
  refine AW.loop (fun (j : Nat) => [(0, true, .v (.pointer (some ⟨b, 0, none⟩))), (2, true, .v (.int .i64 op)), (4, true, .v (.pointer (some ⟨b4, 0, none⟩))), (6, true, .v (.pointer (some ⟨b6, 0, none⟩))), (7, true, .v (.int .i64 (oneV bs x r).1)), (8, true, .v (.int .i64 (oneV bs x r).2)), (9, true, .v (.int .i64 (kindN op (oneV bs x r).1 j))), (21, true, .sl 1 (ints kindsN)), (22, true, .v (.int .i64 16)), (23, true, .v (.int .i64 (j : Int)))]) (fun (j : Nat) => ([Ent.box b 68 (rdCells bs (oneD bs x r)), .box b4 87 (rxCells x), .box b6 23 (insCells nilI)] ++ E18)) (fun (j : Nat) => j ≤ 16) (fun (j : Nat) => 16 - j) 0 ?_ ?_ ?_ ?_
  · exact Nat.zero_le _
  · exact (Sub.cons rfl rfl (Sub.cons rfl rfl (Sub.cons rfl rfl (Sub.cons rfl rfl (Sub.cons rfl rfl (Sub.cons rfl rfl (Sub.cons rfl rfl (Sub.cons rfl rfl (Sub.cons rfl rfl (Sub.cons rfl rfl Sub.nil))))))))))
  · rfl
  ·
   intro j hinv
   refine AW.rseq ?_
   refine AWL.y rfl rfl (B rfl) (Yv.lss rfl (E rfl rfl) (E rfl rfl)) ?_
   refine AWL.nil ?_
   refine AW.seq ?_
   refine AW.cond rfl (fun h0t => ?_) (fun h0f => ?_)
   ·
    try replace h0t := of_decide_eq_true h0t
    refine AW.skip ?_
    refine AW.seq ?_
    refine AW.block ?_
    refine AW.rseq ?_
    refine AWL.y rfl rfl (B rfl) (Yv.indexSl (j := j) rfl ss_43 (B rfl) (E rfl rfl) (E rfl rfl) (fun hg => ⟨rfl, by show j * 1 < 16; omega⟩)) ?_
    refine AWL.y rfl rfl (B rfl) (Yv.loadRp rfl ag_3 (E rfl rfl) (fun hg => ints_get (by show j < 16; omega))) ?_
    refine AWL.y rfl rfl (B rfl) (Yv.assign rfl (E rfl rfl)) ?_
    refine AWL.nil ?_
    refine AW.rseq ?_
    refine AWL.y rfl rfl (B rfl) (Yv.move rfl (E rfl rfl)) ?_
    refine AWL.callT rfl rfl (B rfl) rfl ce_26 (E rfl rfl) (evsC (E rfl rfl) evs0) (opcode33 (kindsN.getD j 0)) ?_
    rintro t29 S29 rfl
    refine AWL.y rfl rfl (B rfl) (Yv.move rfl (E rfl rfl)) ?_
    refine AWL.y rfl rfl (B rfl) (Yv.extract rfl (E rfl rfl) rfl) ?_
    refine AWL.y rfl rfl (B rfl) (Yv.extract rfl (E rfl rfl) rfl) ?_
    refine AWL.y rfl rfl (B rfl) (Yv.assign rfl (E rfl rfl)) ?_
    refine AWL.y rfl rfl (B rfl) (Yv.assign rfl (E rfl rfl)) ?_
    refine AWL.nil ?_
    refine AW.rseq ?_
    refine AWL.y rfl rfl (B rfl) (Yv.move rfl (E rfl rfl)) ?_
    refine AWL.y rfl rfl (B rfl) (Yv.move rfl (E rfl rfl)) ?_
    refine AWL.y rfl rfl (B rfl) (Yv.eql rfl (E rfl rfl) (E rfl rfl)) ?_
    refine AWL.y rfl rfl (B rfl) (Yv.move rfl (E rfl rfl)) ?_
    refine AWL.ygT rfl rfl rfl rfl (B rfl) (Yv.move rfl (E rfl rfl)) ?_
    refine AWL.ygT rfl rfl rfl rfl (B rfl) (Yv.move rfl (E rfl rfl)) ?_
    refine AWL.ygT rfl rfl rfl rfl (B rfl) (Yv.eql rfl (Eg rfl rfl id) (Eg rfl rfl id)) ?_
    refine AWL.y rfl rfl (B rfl) (Yv.pickAnd rfl (E rfl rfl) (Eg rfl rfl id)) ?_
    refine AWL.nil ?_
    refine AW.cond rfl (fun h1t => ?_) (fun h1f => ?_)
    ·
     try replace h1t := of_decide_eq_true h1t
     refine AW.region ?_
     refine AWL.y rfl rfl (B rfl) (Yv.move rfl (E rfl rfl)) ?_
     refine AWL.y rfl rfl (B rfl) (Yv.assign rfl (E rfl rfl)) ?_
     refine AWL.nil ?_
     refine AW.region ?_
     refine AWL.y rfl rfl (B rfl) (Yv.addN_i64 rfl (E rfl rfl) (E rfl rfl) (fun hg => by omega)) ?_
     refine AWL.y rfl rfl (B rfl) (Yv.move rfl (E rfl rfl)) ?_
     refine AWL.nil ?_
     have hkn := kindN_next op (oneV bs x r).1 (show j < 16 by omega)
     refine ⟨j + 1, by omega, by omega, Sub.cons rfl rfl (Sub.cons rfl rfl (Sub.cons rfl rfl (Sub.cons rfl rfl (Sub.cons rfl rfl (Sub.cons rfl rfl (Sub.cons rfl (by rw [hkn, stepN, if_pos h1t]) (Sub.cons rfl rfl (Sub.cons rfl rfl (Sub.cons rfl (by simp) Sub.nil))))))))), rfl⟩
    try replace h1f := of_decide_eq_false h1f
    refine AW.skip ?_
    refine AW.region ?_
    refine AWL.y rfl rfl (B rfl) (Yv.addN_i64 rfl (E rfl rfl) (E rfl rfl) (fun hg => by omega)) ?_
    refine AWL.y rfl rfl (B rfl) (Yv.move rfl (E rfl rfl)) ?_
    refine AWL.nil ?_
    have hkn := kindN_next op (oneV bs x r).1 (show j < 16 by omega)
    refine ⟨j + 1, by omega, by omega, Sub.cons rfl rfl (Sub.cons rfl rfl (Sub.cons rfl rfl (Sub.cons rfl rfl (Sub.cons rfl rfl (Sub.cons rfl rfl (Sub.cons rfl (by rw [hkn, stepN, if_neg (ne_true_of_eq_false h1f)]) (Sub.cons rfl rfl (Sub.cons rfl rfl (Sub.cons rfl (by simp) Sub.nil))))))))), rfl⟩
   try replace h0f := of_decide_eq_false h0f
   refine AW.exit ?_
   obtain rfl : j = 16 := by omega
   refine AW.rseq ?_
   refine AWL.y rfl rfl (B rfl) (Yv.move rfl (E rfl rfl)) ?_
   refine AWL.y rfl rfl (B rfl) (Yv.move rfl (E rfl rfl)) ?_
   refine AWL.y rfl rfl (B rfl) (Yv.gtr rfl (E rfl rfl) (E rfl rfl)) ?_
   refine AWL.call rfl rfl (B rfl) rfl ce_59 (E rfl rfl) (evsC (E rfl rfl) (evsC (E rfl rfl) evs0)) (S1 := [Ent.box b 68 (rdCells bs (oneD bs x r))]) (S2 := _) rfl (must64 b bs (oneD bs x r) (decide (0 < (kindN op (oneV bs x r).1 16)))) ?_
   rintro t45 S45 rfl
   refine AWL.nil ?_
   refine AW.rseq ?_
   refine AWL.y rfl rfl (B rfl) (Yv.move rfl (E rfl rfl)) ?_
   refine AWL.y rfl rfl (B rfl) (Yv.move rfl (E rfl rfl)) ?_
   refine AWL.y rfl rfl (B rfl) (Yv.buildS rfl sh_23 (evpC (E rfl rfl) (evpC (E rfl rfl) evp0)) (fun _ => rfl)) ?_
   refine AWL.allocOp rfl rfl (B rfl) rfl zc_23 (fun b14 => ?_)
   refine AWL.perm (S' := [Ent.box b 68 (rdCells bs (numD1 bs x op r)), .box b4 87 (rxCells x), .box b6 23 (insCells nilI), .box b14 23 (insCells nilI)] ++ E18) (List.Perm.append_left [_, _, _] (List.perm_append_comm (l₁ := [_]) (l₂ := E18))) ?_
   refine AWL.storeBox (i := 3) rfl rfl rfl ag_23 rfl (E rfl rfl) (E rfl rfl) rfl rfl (Nat.le_of_ble_eq_true rfl) ?_
   refine AWL.nil ?_
   refine AW.seq ?_
   refine AW.rseq ?_
   refine AWL.y rfl rfl (B rfl) (Yv.move rfl (E rfl rfl)) ?_
   refine AWL.nil ?_
   refine AW.block ?_
   refine AW.rseq ?_
   refine AWL.y rfl rfl (B rfl) (Yv.eql rfl (E rfl rfl) (E rfl rfl)) ?_
   refine AWL.y rfl rfl (B rfl) (Yv.assign rfl (E rfl rfl)) ?_
   refine AWL.nil ?_
   refine AW.cond rfl (fun h2t => ?_) (fun h2f => ?_)
   ·
    try replace h2t := of_decide_eq_true h2t
    refine AW.region ?_
    refine AWL.y rfl rfl (B rfl) (Yv.move rfl (E rfl rfl)) ?_
    refine AWL.call rfl rfl (B rfl) rfl ce_63 (E rfl rfl) (evsC (E rfl rfl) (evsC (E rfl rfl) evs0)) (S1 := [Ent.box b 68 (rdCells bs (numD1 bs x op r))]) (S2 := _) rfl (imm68 b bs (numD1 bs x op r) hb hok1 4 (.inr (.inl rfl))) ?_
    rintro t53 S53 ⟨rfl, rfl⟩
    refine AWL.y rfl rfl (B rfl) (Yv.fieldBox rfl fo_23_5 (E rfl rfl)) ?_
    refine AWL.storeBox (i := 3) rfl rfl rfl ag_2 rfl (E rfl rfl) (E rfl rfl) rfl rfl (Nat.le_of_ble_eq_true rfl) ?_
    refine AWL.nil ?_
    refine AW.rseq ?_
    refine AWL.y rfl rfl (B rfl) (Yv.loadBoxA rfl ag_23 (i := 3) rfl (E rfl rfl) rfl rfl) ?_
    refine AWL.storeBox (i := 2) rfl rfl rfl ag_23 rfl (E rfl rfl) (E rfl rfl) rfl rfl (Nat.le_of_ble_eq_true rfl) ?_
    refine AWL.nil ?_
    refine AW.ret (retI (.cellA (i := 2) rfl ag_23 rfl rfl rfl .nil) ?_)
    rw [numberedR, if_pos h2t]
    exact ⟨rfl, _, rfl⟩
   try replace h2f := of_decide_eq_false h2f
   refine AW.rseq ?_
   refine AWL.y rfl rfl (B rfl) (Yv.eql rfl (E rfl rfl) (E rfl rfl)) ?_
   refine AWL.y rfl rfl (B rfl) (Yv.assign rfl (E rfl rfl)) ?_
   refine AWL.nil ?_
   refine AW.cond rfl (fun h3t => ?_) (fun h3f => ?_)
   ·
    try replace h3t := of_decide_eq_true h3t
    refine AW.rseq ?_
    refine AWL.y rfl rfl (B rfl) (Yv.move rfl (E rfl rfl)) ?_
    refine AWL.call rfl rfl (B rfl) rfl ce_63 (E rfl rfl) (evsC (E rfl rfl) (evsC (E rfl rfl) evs0)) (S1 := [Ent.box b 68 (rdCells bs (numD1 bs x op r))]) (S2 := _) rfl (imm68 b bs (numD1 bs x op r) hb hok1 1 (.inl rfl)) ?_
    rintro t58 S58 ⟨rfl, rfl⟩
    refine AWL.y rfl rfl (B rfl) (Yv.fieldBox rfl fo_23_5 (E rfl rfl)) ?_
    refine AWL.storeBox (i := 3) rfl rfl rfl ag_2 rfl (E rfl rfl) (E rfl rfl) rfl rfl (Nat.le_of_ble_eq_true rfl) ?_
    refine AWL.nil ?_
    refine AW.region ?_
    refine AWL.y rfl rfl (B rfl) (Yv.move rfl (E rfl rfl)) ?_
    refine AWL.y rfl rfl (B rfl) (Yv.fieldBox rfl fo_23_5 (E rfl rfl)) ?_
    refine AWL.y rfl rfl (B rfl) (Yv.loadBox rfl ag_2 (i := 3) rfl (E rfl rfl) rfl) ?_
    refine AWL.y rfl rfl (B rfl) (Yv.geq rfl (E rfl rfl) (E rfl rfl)) ?_
    refine AWL.y rfl rfl (B rfl) (Yv.move rfl (E rfl rfl)) ?_
    refine AWL.ygT rfl rfl rfl rfl (B rfl) (Yv.fieldBox rfl fo_23_5 (E rfl rfl)) ?_
    refine AWL.ygT rfl rfl rfl rfl (B rfl) (Yv.loadBox rfl ag_2 (i := 3) rfl (Eg rfl rfl id) rfl) ?_
    refine AWL.ygT rfl rfl rfl rfl (B rfl) (Yv.leq rfl (Eg rfl rfl id) (E rfl rfl)) ?_
    refine AWL.y rfl rfl (B rfl) (Yv.pickAnd rfl (E rfl rfl) (Eg rfl rfl id)) ?_
    refine AWL.call rfl rfl (B rfl) rfl ce_59 (E rfl rfl) (evsC (E rfl rfl) (evsC (E rfl rfl) evs0)) (S1 := [Ent.box b 68 (rdCells bs (immD bs (numD1 bs x op r) 1))]) (S2 := _) rfl (must64 b bs (immD bs (numD1 bs x op r) 1) (decide (0 ≤ immV bs (numD1 bs x op r) 1) && decide (immV bs (numD1 bs x op r) 1 ≤ 63))) ?_
    rintro t69 S69 rfl
    refine AWL.nil ?_
    refine AW.rseq ?_
    refine AWL.y rfl rfl (B rfl) (Yv.loadBoxA rfl ag_23 (i := 3) rfl (E rfl rfl) rfl rfl) ?_
    refine AWL.storeBox (i := 2) rfl rfl rfl ag_23 rfl (E rfl rfl) (E rfl rfl) rfl rfl (Nat.le_of_ble_eq_true rfl) ?_
    refine AWL.nil ?_
    refine AW.ret (retI (.cellA (i := 2) rfl ag_23 rfl rfl rfl .nil) ?_)
    rw [numberedR, if_neg h2f, if_pos h3t]
    exact ⟨rfl, _, rfl⟩
   try replace h3f := of_decide_eq_false h3f
   refine AW.skip ?_
   refine AW.rseq ?_
   refine AWL.y rfl rfl (B rfl) (Yv.loadBoxA rfl ag_23 (i := 3) rfl (E rfl rfl) rfl rfl) ?_
   refine AWL.storeBox (i := 2) rfl rfl rfl ag_23 rfl (E rfl rfl) (E rfl rfl) rfl rfl (Nat.le_of_ble_eq_true rfl) ?_
   refine AWL.nil ?_
   refine AW.ret (retI (.cellA (i := 2) rfl ag_23 rfl rfl rfl .nil) ?_)
   rw [numberedR, if_neg h2f, if_neg h3f]
   exact ⟨rfl, _, rfl⟩

set_option maxHeartbeats 2000000 in
theorem narrow73 (b : Nat) (bs : List UInt8) (r : Rd) (hb : bs.length ≤ 1099511627776) (hr : RdOk bs r) (x : Rx) (op : Int) (ho0 : 0 ≤ op) (ho1 : op ≤ 255) :
    ACalls Tryd.prog 73 [.v (.pointer (some ⟨b, 0, none⟩)), rxT x, .v (.int .i64 op)] [Ent.box b 68 (rdCells bs r)] (fun t_ S => t_ = insT (narrowR bs x op r).1 ∧ ∃ E, S = Ent.box b 68 (rdCells bs (narrowR bs x op r).2) :: E) := by
  refine ACalls.intro Tryd.func73 rfl Tryd.ntmps73 (Nat.le_of_ble_eq_true rfl) rfl fun X w0 => ?_
  refine AW.rseq ?_
  refine AWL.boxOp rfl rfl (B rfl) rfl (E rfl rfl) rfl (fun b4 => ?_)
  refine AWL.allocOp rfl rfl (B rfl) rfl zc_23 (fun b6 => ?_)
  refine AWL.nil ?_
  refine AW.seq ?_
  refine AW.block ?_
  refine AW.rseq ?_
  refine AWL.y rfl rfl (B rfl) (Yv.move rfl (E rfl rfl)) ?_
  refine AWL.y rfl rfl (B rfl) (Yv.eql rfl (E rfl rfl) (E rfl rfl)) ?_
  refine AWL.y rfl rfl (B rfl) (Yv.assign rfl (E rfl rfl)) ?_
  refine AWL.nil ?_
  refine AW.cond rfl (fun h0t => ?_) (fun h0f => ?_)
  ·
   try replace h0t := of_decide_eq_true h0t
   refine AW.rseq ?_
   refine AWL.y rfl rfl (B rfl) (Yv.move rfl (E rfl rfl)) ?_
   refine AWL.y rfl rfl (B rfl) (Yv.loadBoxA rfl ag_87 (i := 1) rfl (E rfl rfl) rfl rfl) ?_
   refine AWL.call rfl rfl (B rfl) rfl ce_74 (E rfl rfl) (evsC (E rfl rfl) (evsC (E rfl rfl) evs0)) (S1 := [Ent.box b 68 (rdCells bs r)]) (S2 := _) rfl (mem74 b bs r hb hr x) ?_
   rintro t24 S24 ⟨rfl, E24, rfl⟩
   refine AWL.tuck ?_
   refine AWL.y rfl rfl (B rfl) (Yv.move rfl (E rfl rfl)) ?_
   refine AWL.y rfl rfl (B rfl) (Yv.extract rfl (E rfl rfl) rfl) ?_
   refine AWL.y rfl rfl (B rfl) (Yv.extract rfl (E rfl rfl) rfl) ?_
   refine AWL.y rfl rfl (B rfl) (Yv.extract rfl (E rfl rfl) rfl) ?_
   refine AWL.y rfl rfl (B rfl) (Yv.assign rfl (E rfl rfl)) ?_
   refine AWL.y rfl rfl (B rfl) (Yv.assign rfl (E rfl rfl)) ?_
   refine AWL.y rfl rfl (B rfl) (Yv.assign rfl (E rfl rfl)) ?_
   refine AWL.nil ?_
   refine AW.rseq ?_
   refine AWL.y rfl rfl (B rfl) (Yv.move rfl (E rfl rfl)) ?_
   refine AWL.y rfl rfl (B rfl) (Yv.move rfl (E rfl rfl)) ?_
   refine AWL.y rfl rfl (B rfl) (Yv.move rfl (E rfl rfl)) ?_
   refine AWL.y rfl rfl (B rfl) (Yv.buildS rfl sh_23 (evpC (E rfl rfl) (evpC (E rfl rfl) (evpC (E rfl rfl) (evpC (E rfl rfl) (evpC (E rfl rfl) evp0))))) (fun _ => rfl)) ?_
   refine AWL.storeBox (i := 2) rfl rfl rfl ag_23 rfl (E rfl rfl) (E rfl rfl) rfl rfl (Nat.le_of_ble_eq_true rfl) ?_
   refine AWL.nil ?_
   refine AW.ret (retI (.cellA (i := 2) rfl ag_23 rfl rfl rfl .nil) ?_)
   rw [narrowR, if_pos h0t]
   exact ⟨rfl, _, rfl⟩
  try replace h0f := of_decide_eq_false h0f
  refine AW.rseq ?_
  refine AWL.y rfl rfl (B rfl) (Yv.move rfl (E rfl rfl)) ?_
  refine AWL.y rfl rfl (B rfl) (Yv.eql rfl (E rfl rfl) (E rfl rfl)) ?_
  refine AWL.y rfl rfl (B rfl) (Yv.assign rfl (E rfl rfl)) ?_
  refine AWL.nil ?_
  refine AW.cond rfl (fun h1t => ?_) (fun h1f => ?_)
  ·
   try replace h1t := of_decide_eq_true h1t
   refine AW.rseq ?_
   refine AWL.y rfl rfl (B rfl) (Yv.move rfl (E rfl rfl)) ?_
   refine AWL.y rfl rfl (B rfl) (Yv.loadBoxA rfl ag_87 (i := 1) rfl (E rfl rfl) rfl rfl) ?_
   refine AWL.call rfl rfl (B rfl) rfl ce_74 (E rfl rfl) (evsC (E rfl rfl) (evsC (E rfl rfl) evs0)) (S1 := [Ent.box b 68 (rdCells bs r)]) (S2 := _) rfl (mem74 b bs r hb hr x) ?_
   rintro t38 S38 ⟨rfl, E38, rfl⟩
   refine AWL.tuck ?_
   refine AWL.y rfl rfl (B rfl) (Yv.move rfl (E rfl rfl)) ?_
   refine AWL.y rfl rfl (B rfl) (Yv.extract rfl (E rfl rfl) rfl) ?_
   refine AWL.y rfl rfl (B rfl) (Yv.extract rfl (E rfl rfl) rfl) ?_
   refine AWL.y rfl rfl (B rfl) (Yv.extract rfl (E rfl rfl) rfl) ?_
   refine AWL.y rfl rfl (B rfl) (Yv.assign rfl (E rfl rfl)) ?_
   refine AWL.y rfl rfl (B rfl) (Yv.assign rfl (E rfl rfl)) ?_
   refine AWL.y rfl rfl (B rfl) (Yv.assign rfl (E rfl rfl)) ?_
   refine AWL.nil ?_
   refine AW.rseq ?_
   refine AWL.y rfl rfl (B rfl) (Yv.move rfl (E rfl rfl)) ?_
   refine AWL.y rfl rfl (B rfl) (Yv.move rfl (E rfl rfl)) ?_
   refine AWL.y rfl rfl (B rfl) (Yv.move rfl (E rfl rfl)) ?_
   refine AWL.y rfl rfl (B rfl) (Yv.buildS rfl sh_23 (evpC (E rfl rfl) (evpC (E rfl rfl) (evpC (E rfl rfl) (evpC (E rfl rfl) (evpC (E rfl rfl) evp0))))) (fun _ => rfl)) ?_
   refine AWL.storeBox (i := 2) rfl rfl rfl ag_23 rfl (E rfl rfl) (E rfl rfl) rfl rfl (Nat.le_of_ble_eq_true rfl) ?_
   refine AWL.nil ?_
   refine AW.ret (retI (.cellA (i := 2) rfl ag_23 rfl rfl rfl .nil) ?_)
   rw [narrowR, if_neg h0f, if_pos h1t]
   exact ⟨rfl, _, rfl⟩
  try replace h1f := of_decide_eq_false h1f
  refine AW.rseq ?_
  refine AWL.y rfl rfl (B rfl) (Yv.move rfl (E rfl rfl)) ?_
  refine AWL.y rfl rfl (B rfl) (Yv.eql rfl (E rfl rfl) (E rfl rfl)) ?_
  refine AWL.y rfl rfl (B rfl) (Yv.assign rfl (E rfl rfl)) ?_
  refine AWL.nil ?_
  refine AW.cond rfl (fun h2t => ?_) (fun h2f => ?_)
  ·
   try replace h2t := of_decide_eq_true h2t
   refine AW.rseq ?_
   refine AWL.y rfl rfl (B rfl) (Yv.move rfl (E rfl rfl)) ?_
   refine AWL.y rfl rfl (B rfl) (Yv.loadBoxA rfl ag_87 (i := 1) rfl (E rfl rfl) rfl rfl) ?_
   refine AWL.call rfl rfl (B rfl) rfl ce_74 (E rfl rfl) (evsC (E rfl rfl) (evsC (E rfl rfl) evs0)) (S1 := [Ent.box b 68 (rdCells bs r)]) (S2 := _) rfl (mem74 b bs r hb hr x) ?_
   rintro t52 S52 ⟨rfl, E52, rfl⟩
   refine AWL.tuck ?_
   refine AWL.y rfl rfl (B rfl) (Yv.move rfl (E rfl rfl)) ?_
   refine AWL.y rfl rfl (B rfl) (Yv.extract rfl (E rfl rfl) rfl) ?_
   refine AWL.y rfl rfl (B rfl) (Yv.extract rfl (E rfl rfl) rfl) ?_
   refine AWL.y rfl rfl (B rfl) (Yv.extract rfl (E rfl rfl) rfl) ?_
   refine AWL.y rfl rfl (B rfl) (Yv.assign rfl (E rfl rfl)) ?_
   refine AWL.y rfl rfl (B rfl) (Yv.assign rfl (E rfl rfl)) ?_
   refine AWL.y rfl rfl (B rfl) (Yv.assign rfl (E rfl rfl)) ?_
   refine AWL.nil ?_
   refine AW.rseq ?_
   refine AWL.y rfl rfl (B rfl) (Yv.move rfl (E rfl rfl)) ?_
   refine AWL.y rfl rfl (B rfl) (Yv.move rfl (E rfl rfl)) ?_
   refine AWL.y rfl rfl (B rfl) (Yv.move rfl (E rfl rfl)) ?_
   refine AWL.y rfl rfl (B rfl) (Yv.buildS rfl sh_23 (evpC (E rfl rfl) (evpC (E rfl rfl) (evpC (E rfl rfl) (evpC (E rfl rfl) (evpC (E rfl rfl) evp0))))) (fun _ => rfl)) ?_
   refine AWL.storeBox (i := 2) rfl rfl rfl ag_23 rfl (E rfl rfl) (E rfl rfl) rfl rfl (Nat.le_of_ble_eq_true rfl) ?_
   refine AWL.nil ?_
   refine AW.ret (retI (.cellA (i := 2) rfl ag_23 rfl rfl rfl .nil) ?_)
   rw [narrowR, if_neg h0f, if_neg h1f, if_pos h2t]
   exact ⟨rfl, _, rfl⟩
  try replace h2f := of_decide_eq_false h2f
  refine AW.rseq ?_
  refine AWL.y rfl rfl (B rfl) (Yv.move rfl (E rfl rfl)) ?_
  refine AWL.y rfl rfl (B rfl) (Yv.eql rfl (E rfl rfl) (E rfl rfl)) ?_
  refine AWL.y rfl rfl (B rfl) (Yv.assign rfl (E rfl rfl)) ?_
  refine AWL.nil ?_
  refine AW.cond rfl (fun h3t => ?_) (fun h3f => ?_)
  ·
   try replace h3t := of_decide_eq_true h3t
   refine AW.rseq ?_
   refine AWL.y rfl rfl (B rfl) (Yv.move rfl (E rfl rfl)) ?_
   refine AWL.y rfl rfl (B rfl) (Yv.loadBoxA rfl ag_87 (i := 1) rfl (E rfl rfl) rfl rfl) ?_
   refine AWL.call rfl rfl (B rfl) rfl ce_76 (E rfl rfl) (evsC (E rfl rfl) (evsC (E rfl rfl) evs0)) (S1 := [Ent.box b 68 (rdCells bs r)]) (S2 := _) rfl (one76 b bs r hb hr x) ?_
   rintro t66 S66 ⟨rfl, E66, rfl⟩
   refine AWL.tuck ?_
   refine AWL.y rfl rfl (B rfl) (Yv.move rfl (E rfl rfl)) ?_
   refine AWL.y rfl rfl (B rfl) (Yv.extract rfl (E rfl rfl) rfl) ?_
   refine AWL.y rfl rfl (B rfl) (Yv.extract rfl (E rfl rfl) rfl) ?_
   refine AWL.y rfl rfl (B rfl) (Yv.assign rfl (E rfl rfl)) ?_
   refine AWL.y rfl rfl (B rfl) (Yv.assign rfl (E rfl rfl)) ?_
   refine AWL.nil ?_
   refine AW.rseq ?_
   refine AWL.y rfl rfl (B rfl) (Yv.move rfl (E rfl rfl)) ?_
   refine AWL.y rfl rfl (B rfl) (Yv.move rfl (E rfl rfl)) ?_
   refine AWL.y rfl rfl (B rfl) (Yv.eql rfl (E rfl rfl) (E rfl rfl)) ?_
   refine AWL.y rfl rfl (B rfl) (Yv.move rfl (E rfl rfl)) ?_
   refine AWL.ygF rfl rfl rfl rfl (B rfl) (Yv.move rfl (E rfl rfl)) ?_
   refine AWL.ygF rfl rfl rfl rfl (B rfl) (Yv.eql rfl (Eg rfl rfl id) (E rfl rfl)) ?_
   refine AWL.y rfl rfl (B rfl) (Yv.pickOr (t := .const (.bool true)) rfl (E rfl rfl) (Eg rfl rfl id)) ?_
   refine AWL.call rfl rfl (B rfl) rfl ce_59 (E rfl rfl) (evsC (E rfl rfl) (evsC (E rfl rfl) evs0)) (S1 := [Ent.box b 68 (rdCells bs (oneD bs x r))]) (S2 := _) rfl (must64 b bs (oneD bs x r) (decide ((oneV bs x r).1 = 2) || decide ((oneV bs x r).1 = 4))) ?_
   rintro t76 S76 rfl
   refine AWL.nil ?_
   refine AW.seq ?_
   refine AW.rseq ?_
   refine AWL.y rfl rfl (B rfl) (Yv.move rfl (E rfl rfl)) ?_
   refine AWL.y rfl rfl (B rfl) (Yv.eql rfl (E rfl rfl) (E rfl rfl)) ?_
   refine AWL.nil ?_
   refine AW.cond rfl (fun h4t => ?_) (fun h4f => ?_)
   ·
    try replace h4t := of_decide_eq_true h4t
    refine AW.rseq ?_
    refine AWL.y rfl rfl (B rfl) (Yv.move rfl (E rfl rfl)) ?_
    refine AWL.y rfl rfl (B rfl) (Yv.buildS rfl sh_23 (evpC (E rfl rfl) (evpC (E rfl rfl) evp0)) (fun _ => rfl)) ?_
    refine AWL.storeBox (i := 2) rfl rfl rfl ag_23 rfl (E rfl rfl) (E rfl rfl) rfl rfl (Nat.le_of_ble_eq_true rfl) ?_
    refine AWL.nil ?_
    refine AW.ret (retI (.cellA (i := 2) rfl ag_23 rfl rfl rfl .nil) ?_)
    rw [narrowR, if_neg h0f, if_neg h1f, if_neg h2f, if_pos h3t, if_pos h4t]
    exact ⟨rfl, _, rfl⟩
   try replace h4f := of_decide_eq_false h4f
   refine AW.skip ?_
   refine AW.rseq ?_
   refine AWL.y rfl rfl (B rfl) (Yv.move rfl (E rfl rfl)) ?_
   refine AWL.y rfl rfl (B rfl) (Yv.buildS rfl sh_23 (evpC (E rfl rfl) (evpC (E rfl rfl) evp0)) (fun _ => rfl)) ?_
   refine AWL.storeBox (i := 2) rfl rfl rfl ag_23 rfl (E rfl rfl) (E rfl rfl) rfl rfl (Nat.le_of_ble_eq_true rfl) ?_
   refine AWL.nil ?_
   refine AW.ret (retI (.cellA (i := 2) rfl ag_23 rfl rfl rfl .nil) ?_)
   rw [narrowR, if_neg h0f, if_neg h1f, if_neg h2f, if_pos h3t, if_neg h4f]
   exact ⟨rfl, _, rfl⟩
  try replace h3f := of_decide_eq_false h3f
  refine AW.rseq ?_
  refine AWL.y rfl rfl (B rfl) (Yv.move rfl (E rfl rfl)) ?_
  refine AWL.y rfl rfl (B rfl) (Yv.bits rfl rfl (E rfl rfl) (E rfl rfl)) ?_
  refine AWL.y rfl rfl (B rfl) (Yv.eql rfl (E rfl rfl) (E rfl rfl)) ?_
  refine AWL.y rfl rfl (B rfl) (Yv.assign rfl (E rfl rfl)) ?_
  refine AWL.nil ?_
  refine AW.cond rfl (fun h5t => ?_) (fun h5f => ?_)
  ·
   try replace h5t := of_decide_eq_true h5t
   refine AW.rseq ?_
   refine AWL.y rfl rfl (B rfl) (Yv.move rfl (E rfl rfl)) ?_
   refine AWL.y rfl rfl (B rfl) (Yv.fieldBox rfl fo_87_1 (E rfl rfl)) ?_
   refine AWL.y rfl rfl (B rfl) (Yv.loadBox rfl ag_3 (i := 1) rfl (E rfl rfl) rfl) ?_
   refine AWL.y rfl rfl (B rfl) (Yv.eql rfl (E rfl rfl) (E rfl rfl)) ?_
   refine AWL.call rfl rfl (B rfl) rfl ce_59 (E rfl rfl) (evsC (E rfl rfl) (evsC (E rfl rfl) evs0)) (S1 := [Ent.box b 68 (rdCells bs r)]) (S2 := _) rfl (must64 b bs r _) ?_
   rintro t91 S91 rfl
   refine AWL.nil ?_
   refine AW.rseq ?_
   refine AWL.y rfl rfl (B rfl) (Yv.fieldBox rfl fo_87_2 (E rfl rfl)) ?_
   refine AWL.y rfl rfl (B rfl) (Yv.loadBox rfl ag_3 (i := 1) rfl (E rfl rfl) rfl) ?_
   refine AWL.y rfl rfl (B rfl) (Yv.move rfl (E rfl rfl)) ?_
   refine AWL.y rfl rfl (B rfl) (Yv.andN_i64 3 8 (by decide) (by decide) (by decide) rfl (E rfl rfl) (E rfl rfl) (fun hg => ⟨by omega, by omega⟩)) ?_
   refine AWL.y rfl rfl (B rfl) (Yv.bits rfl rfl (E rfl rfl) (E rfl rfl)) ?_
   refine AWL.y rfl rfl (B rfl) (Yv.buildS rfl sh_23 (evpC (E rfl rfl) (evpC (E rfl rfl) evp0)) (fun _ => rfl)) ?_
   refine AWL.storeBox (i := 2) rfl rfl rfl ag_23 rfl (E rfl rfl) (E rfl rfl) rfl rfl (Nat.le_of_ble_eq_true rfl) ?_
   refine AWL.nil ?_
   refine AW.ret (retI (.cellA (i := 2) rfl ag_23 rfl rfl rfl .nil) ?_)
   rw [narrowR, if_neg h0f, if_neg h1f, if_neg h2f, if_neg h3f, if_pos h5t]
   exact ⟨rfl, _, rfl⟩
  try replace h5f := of_decide_eq_false h5f
  refine AW.rseq ?_
  refine AWL.y rfl rfl (B rfl) (Yv.move rfl (E rfl rfl)) ?_
  refine AWL.y rfl rfl (B rfl) (Yv.bits rfl rfl (E rfl rfl) (E rfl rfl)) ?_
  refine AWL.y rfl rfl (B rfl) (Yv.eql rfl (E rfl rfl) (E rfl rfl)) ?_
  refine AWL.y rfl rfl (B rfl) (Yv.assign rfl (E rfl rfl)) ?_
  refine AWL.nil ?_
  refine AW.cond rfl (fun h6t => ?_) (fun h6f => ?_)
  ·
   try replace h6t := of_decide_eq_true h6t
   refine AW.rseq ?_
   refine AWL.y rfl rfl (B rfl) (Yv.move rfl (E rfl rfl)) ?_
   refine AWL.y rfl rfl (B rfl) (Yv.fieldBox rfl fo_87_1 (E rfl rfl)) ?_
   refine AWL.y rfl rfl (B rfl) (Yv.loadBox rfl ag_3 (i := 1) rfl (E rfl rfl) rfl) ?_
   refine AWL.y rfl rfl (B rfl) (Yv.eql rfl (E rfl rfl) (E rfl rfl)) ?_
   refine AWL.call rfl rfl (B rfl) rfl ce_59 (E rfl rfl) (evsC (E rfl rfl) (evsC (E rfl rfl) evs0)) (S1 := [Ent.box b 68 (rdCells bs r)]) (S2 := _) rfl (must64 b bs r _) ?_
   rintro t106 S106 rfl
   refine AWL.nil ?_
   refine AW.rseq ?_
   refine AWL.y rfl rfl (B rfl) (Yv.fieldBox rfl fo_87_2 (E rfl rfl)) ?_
   refine AWL.y rfl rfl (B rfl) (Yv.loadBox rfl ag_3 (i := 1) rfl (E rfl rfl) rfl) ?_
   refine AWL.y rfl rfl (B rfl) (Yv.move rfl (E rfl rfl)) ?_
   refine AWL.y rfl rfl (B rfl) (Yv.andN_i64 3 8 (by decide) (by decide) (by decide) rfl (E rfl rfl) (E rfl rfl) (fun hg => ⟨by omega, by omega⟩)) ?_
   refine AWL.y rfl rfl (B rfl) (Yv.bits rfl rfl (E rfl rfl) (E rfl rfl)) ?_
   refine AWL.y rfl rfl (B rfl) (Yv.buildS rfl sh_23 (evpC (E rfl rfl) (evpC (E rfl rfl) evp0)) (fun _ => rfl)) ?_
   refine AWL.storeBox (i := 2) rfl rfl rfl ag_23 rfl (E rfl rfl) (E rfl rfl) rfl rfl (Nat.le_of_ble_eq_true rfl) ?_
   refine AWL.nil ?_
   refine AW.ret (retI (.cellA (i := 2) rfl ag_23 rfl rfl rfl .nil) ?_)
   rw [narrowR, if_neg h0f, if_neg h1f, if_neg h2f, if_neg h3f, if_neg h5f, if_pos h6t]
   exact ⟨rfl, _, rfl⟩
  try replace h6f := of_decide_eq_false h6f
  refine AW.skip ?_
  refine AW.rseq ?_
  refine AWL.y rfl rfl (B rfl) (Yv.move rfl (E rfl rfl)) ?_
  refine AWL.call rfl rfl (B rfl) rfl ce_59 (E rfl rfl) (evsC (E rfl rfl) (evsC (E rfl rfl) evs0)) (S1 := [Ent.box b 68 (rdCells bs r)]) (S2 := _) rfl (must64 b bs r _) ?_
  rintro t114 S114 rfl
  refine AWL.nil ?_
  refine AW.rseq ?_
  refine AWL.y rfl rfl (B rfl) (Yv.buildS rfl sh_23 evp0 (fun _ => rfl)) ?_
  refine AWL.storeBox (i := 2) rfl rfl rfl ag_23 rfl (E rfl rfl) (E rfl rfl) rfl rfl (Nat.le_of_ble_eq_true rfl) ?_
  refine AWL.nil ?_
  refine AW.ret (retI (.cellA (i := 2) rfl ag_23 rfl rfl rfl .nil) ?_)
  rw [narrowR, if_neg h0f, if_neg h1f, if_neg h2f, if_neg h3f, if_neg h5f, if_neg h6f]
  exact ⟨rfl, _, rfl⟩

set_option maxHeartbeats 2000000 in
theorem far72 (b : Nat) (bs : List UInt8) (r : Rd) (hb : bs.length ≤ 1099511627776) (hr : RdOk bs r) (x : Rx) :
    ACalls Tryd.prog 72 [.v (.pointer (some ⟨b, 0, none⟩)), rxT x] [Ent.box b 68 (rdCells bs r)] (fun t_ S => t_ = insT (farR bs x r).1 ∧ ∃ E, S = Ent.box b 68 (rdCells bs (farR bs x r).2) :: E) := by
  have hok1 : RdOk bs (farD1 x r) := must_ok hr _
  have hok2 := next_ok hok1
  obtain ⟨hx0, hx1⟩ := next_range bs (farD1 x r)
  refine ACalls.intro Tryd.func72 rfl Tryd.ntmps72 (Nat.le_of_ble_eq_true rfl) rfl fun X w0 => ?_
  refine AW.rseq ?_
  refine AWL.boxOp rfl rfl (B rfl) rfl (E rfl rfl) rfl (fun b3 => ?_)
  refine AWL.allocOp rfl rfl (B rfl) rfl zc_23 (fun b4 => ?_)
  refine AWL.nil ?_
  refine AW.rseq ?_
  refine AWL.y rfl rfl (B rfl) (Yv.move rfl (E rfl rfl)) ?_
  refine AWL.y rfl rfl (B rfl) (Yv.fieldBox rfl fo_87_0 (E rfl rfl)) ?_
  refine AWL.y rfl rfl (B rfl) (Yv.loadBox rfl ag_3 (i := 1) rfl (E rfl rfl) rfl) ?_
  refine AWL.y rfl rfl (B rfl) (Yv.eql rfl (E rfl rfl) (E rfl rfl)) ?_
  refine AWL.y rfl rfl (B rfl) (Yv.move rfl (E rfl rfl)) ?_
  refine AWL.ygF rfl rfl rfl rfl (B rfl) (Yv.fieldBox rfl fo_87_1 (E rfl rfl)) ?_
  refine AWL.ygF rfl rfl rfl rfl (B rfl) (Yv.loadBox rfl ag_3 (i := 1) rfl (Eg rfl rfl id) rfl) ?_
  refine AWL.ygF rfl rfl rfl rfl (B rfl) (Yv.eql rfl (Eg rfl rfl id) (E rfl rfl)) ?_
  refine AWL.y rfl rfl (B rfl) (Yv.pickOr (t := .const (.bool true)) rfl (E rfl rfl) (Eg rfl rfl id)) ?_
  refine AWL.call rfl rfl (B rfl) rfl ce_59 (E rfl rfl) (evsC (E rfl rfl) (evsC (E rfl rfl) evs0)) (S1 := [Ent.box b 68 (rdCells bs r)]) (S2 := _) rfl (must64 b bs r (decide (x.wide = 1) || decide (x.reg = 0))) ?_
  rintro t26 S26 rfl
  refine AWL.nil ?_
  refine AW.rseq ?_
  refine AWL.y rfl rfl (B rfl) (Yv.move rfl (E rfl rfl)) ?_
  refine AWL.call rfl rfl (B rfl) rfl ce_58 (E rfl rfl) (evsC (E rfl rfl) evs0) (S1 := [Ent.box b 68 (rdCells bs (farD1 x r))]) (S2 := _) rfl (next63 b bs (farD1 x r) hb hok1) ?_
  rintro t28 S28 ⟨rfl, rfl⟩
  refine AWL.y rfl rfl (B rfl) (Yv.assign rfl (E rfl rfl)) ?_
  refine AWL.nil ?_
  refine AW.seq ?_
  refine AW.rseq ?_
  refine AWL.y rfl rfl (B rfl) (Yv.move rfl (E rfl rfl)) ?_
  refine AWL.y rfl rfl (B rfl) (Yv.nilChk rfl (E rfl rfl)) ?_
  refine AWL.y rfl rfl (B rfl) (Yv.fieldBox rfl fo_68_2 (E rfl rfl)) ?_
  refine AWL.y rfl rfl (B rfl) (Yv.loadBox rfl ag_4 (i := 0) rfl (E rfl rfl) rfl) ?_
  refine AWL.y rfl rfl (B rfl) (Yv.move rfl (E rfl rfl)) ?_
  refine AWL.ygF rfl rfl rfl rfl (B rfl) (Yv.move rfl (E rfl rfl)) ?_
  refine AWL.ygF rfl rfl rfl rfl (B rfl) (Yv.nilChk rfl (Eg rfl rfl id)) ?_
  refine AWL.ygF rfl rfl rfl rfl (B rfl) (Yv.fieldBox rfl fo_68_3 (Eg rfl rfl id)) ?_
  refine AWL.ygF rfl rfl rfl rfl (B rfl) (Yv.loadBox rfl ag_4 (i := 0) rfl (Eg rfl rfl id) rfl) ?_
  refine AWL.y rfl rfl (B rfl) (Yv.pickOr (t := .const (.bool true)) rfl (E rfl rfl) (Eg rfl rfl id)) ?_
  refine AWL.nil ?_
  refine AW.cond rfl (fun h0t => ?_) (fun h0f => ?_)
  ·
   try replace h0t := of_decide_eq_true h0t
   refine AW.rseq ?_
   refine AWL.y rfl rfl (B rfl) (Yv.buildS rfl sh_23 evp0 (fun _ => rfl)) ?_
   refine AWL.storeBox (i := 2) rfl rfl rfl ag_23 rfl (E rfl rfl) (E rfl rfl) rfl rfl (Nat.le_of_ble_eq_true rfl) ?_
   refine AWL.nil ?_
   refine AW.ret (retI (.cellA (i := 2) rfl ag_23 rfl rfl rfl .nil) ?_)
   rw [farR, if_pos h0t]
   exact ⟨rfl, _, rfl⟩
  try replace h0f := of_decide_eq_false h0f
  refine AW.skip ?_
  refine AW.seq ?_
  refine AW.block ?_
  refine AW.rseq ?_
  refine AWL.y rfl rfl (B rfl) (Yv.fieldBox rfl fo_87_0 (E rfl rfl)) ?_
  refine AWL.y rfl rfl (B rfl) (Yv.loadBox rfl ag_3 (i := 1) rfl (E rfl rfl) rfl) ?_
  refine AWL.y rfl rfl (B rfl) (Yv.eql rfl (E rfl rfl) (E rfl rfl)) ?_
  refine AWL.y rfl rfl (B rfl) (Yv.move rfl (E rfl rfl)) ?_
  refine AWL.ygT rfl rfl rfl rfl (B rfl) (Yv.move rfl (E rfl rfl)) ?_
  refine AWL.ygT rfl rfl rfl rfl (B rfl) (Yv.bits rfl rfl (Eg rfl rfl id) (E rfl rfl)) ?_
  refine AWL.ygT rfl rfl rfl rfl (B rfl) (Yv.eql rfl (Eg rfl rfl id) (E rfl rfl)) ?_
  refine AWL.y rfl rfl (B rfl) (Yv.pickAnd rfl (E rfl rfl) (Eg rfl rfl id)) ?_
  refine AWL.y rfl rfl (B rfl) (Yv.assign rfl (E rfl rfl)) ?_
  refine AWL.nil ?_
  refine AW.cond rfl (fun h1t => ?_) (fun h1f => ?_)
  ·
   try replace h1t := of_decide_eq_true h1t
   refine AW.rseq ?_
   refine AWL.y rfl rfl (B rfl) (Yv.move rfl (E rfl rfl)) ?_
   refine AWL.y rfl rfl (B rfl) (Yv.loadBoxA rfl ag_87 (i := 1) rfl (E rfl rfl) rfl rfl) ?_
   refine AWL.call rfl rfl (B rfl) rfl ce_76 (E rfl rfl) (evsC (E rfl rfl) (evsC (E rfl rfl) evs0)) (S1 := [Ent.box b 68 (rdCells bs (nextF bs (farD1 x r)).2)]) (S2 := _) rfl (one76 b bs (nextF bs (farD1 x r)).2 hb hok2 x) ?_
   rintro t52 S52 ⟨rfl, E52, rfl⟩
   refine AWL.tuck ?_
   refine AWL.y rfl rfl (B rfl) (Yv.move rfl (E rfl rfl)) ?_
   refine AWL.y rfl rfl (B rfl) (Yv.extract rfl (E rfl rfl) rfl) ?_
   refine AWL.y rfl rfl (B rfl) (Yv.extract rfl (E rfl rfl) rfl) ?_
   refine AWL.y rfl rfl (B rfl) (Yv.assign rfl (E rfl rfl)) ?_
   refine AWL.y rfl rfl (B rfl) (Yv.assign rfl (E rfl rfl)) ?_
   refine AWL.nil ?_
   refine AW.rseq ?_
   refine AWL.y rfl rfl (B rfl) (Yv.move rfl (E rfl rfl)) ?_
   refine AWL.y rfl rfl (B rfl) (Yv.move rfl (E rfl rfl)) ?_
   refine AWL.y rfl rfl (B rfl) (Yv.eql rfl (E rfl rfl) (E rfl rfl)) ?_
   refine AWL.call rfl rfl (B rfl) rfl ce_59 (E rfl rfl) (evsC (E rfl rfl) (evsC (E rfl rfl) evs0)) (S1 := [Ent.box b 68 (rdCells bs (oneD bs x (nextF bs (farD1 x r)).2))]) (S2 := _) rfl (must64 b bs (oneD bs x (nextF bs (farD1 x r)).2) (decide ((oneV bs x (nextF bs (farD1 x r)).2).1 = 0))) ?_
   rintro t58 S58 rfl
   refine AWL.nil ?_
   refine AW.rseq ?_
   refine AWL.y rfl rfl (B rfl) (Yv.move rfl (E rfl rfl)) ?_
   refine AWL.y rfl rfl (B rfl) (Yv.move rfl (E rfl rfl)) ?_
   refine AWL.y rfl rfl (B rfl) (Yv.andN_i64 4 16 (by decide) (by decide) (by decide) rfl (E rfl rfl) (E rfl rfl) (fun hg => ⟨by omega, by omega⟩)) ?_
   refine AWL.y rfl rfl (B rfl) (Yv.buildS rfl sh_23 (evpC (E rfl rfl) (evpC (E rfl rfl) (evpC (E rfl rfl) evp0))) (fun _ => rfl)) ?_
   refine AWL.storeBox (i := 2) rfl rfl rfl ag_23 rfl (E rfl rfl) (E rfl rfl) rfl rfl (Nat.le_of_ble_eq_true rfl) ?_
   refine AWL.nil ?_
   refine AW.ret (retI (.cellA (i := 2) rfl ag_23 rfl rfl rfl .nil) ?_)
   rw [farR, if_neg (ne_true_of_eq_false h0f), farIn, if_pos h1t]
   exact ⟨rfl, _, rfl⟩
  try replace h1f := of_decide_eq_false h1f
  refine AW.rseq ?_
  refine AWL.y rfl rfl (B rfl) (Yv.fieldBox rfl fo_87_0 (E rfl rfl)) ?_
  refine AWL.y rfl rfl (B rfl) (Yv.loadBox rfl ag_3 (i := 1) rfl (E rfl rfl) rfl) ?_
  refine AWL.y rfl rfl (B rfl) (Yv.eql rfl (E rfl rfl) (E rfl rfl)) ?_
  refine AWL.y rfl rfl (B rfl) (Yv.move rfl (E rfl rfl)) ?_
  refine AWL.ygT rfl rfl rfl rfl (B rfl) (Yv.move rfl (E rfl rfl)) ?_
  refine AWL.ygT rfl rfl rfl rfl (B rfl) (Yv.bits rfl rfl (Eg rfl rfl id) (E rfl rfl)) ?_
  refine AWL.ygT rfl rfl rfl rfl (B rfl) (Yv.eql rfl (Eg rfl rfl id) (E rfl rfl)) ?_
  refine AWL.y rfl rfl (B rfl) (Yv.pickAnd rfl (E rfl rfl) (Eg rfl rfl id)) ?_
  refine AWL.y rfl rfl (B rfl) (Yv.assign rfl (E rfl rfl)) ?_
  refine AWL.nil ?_
  refine AW.cond rfl (fun h2t => ?_) (fun h2f => ?_)
  ·
   try replace h2t := of_decide_eq_true h2t
   refine AW.rseq ?_
   refine AWL.y rfl rfl (B rfl) (Yv.move rfl (E rfl rfl)) ?_
   refine AWL.y rfl rfl (B rfl) (Yv.loadBoxA rfl ag_87 (i := 1) rfl (E rfl rfl) rfl rfl) ?_
   refine AWL.call rfl rfl (B rfl) rfl ce_78 (E rfl rfl) (evsC (E rfl rfl) (evsC (E rfl rfl) evs0)) (S1 := [Ent.box b 68 (rdCells bs (nextF bs (farD1 x r)).2)]) (S2 := _) rfl (two78 b bs (nextF bs (farD1 x r)).2 hb hok2 x) ?_
   rintro t75 S75 ⟨rfl, E75, rfl⟩
   refine AWL.tuck ?_
   refine AWL.y rfl rfl (B rfl) (Yv.move rfl (E rfl rfl)) ?_
   refine AWL.y rfl rfl (B rfl) (Yv.extract rfl (E rfl rfl) rfl) ?_
   refine AWL.y rfl rfl (B rfl) (Yv.extract rfl (E rfl rfl) rfl) ?_
   refine AWL.y rfl rfl (B rfl) (Yv.assign rfl (E rfl rfl)) ?_
   refine AWL.y rfl rfl (B rfl) (Yv.assign rfl (E rfl rfl)) ?_
   refine AWL.nil ?_
   refine AW.rseq ?_
   refine AWL.y rfl rfl (B rfl) (Yv.move rfl (E rfl rfl)) ?_
   refine AWL.y rfl rfl (B rfl) (Yv.move rfl (E rfl rfl)) ?_
   refine AWL.y rfl rfl (B rfl) (Yv.move rfl (E rfl rfl)) ?_
   refine AWL.y rfl rfl (B rfl) (Yv.andN_i64 4 16 (by decide) (by decide) (by decide) rfl (E rfl rfl) (E rfl rfl) (fun hg => ⟨by omega, by omega⟩)) ?_
   refine AWL.y rfl rfl (B rfl) (Yv.buildS rfl sh_23 (evpC (E rfl rfl) (evpC (E rfl rfl) (evpC (E rfl rfl) (evpC (E rfl rfl) evp0)))) (fun _ => rfl)) ?_
   refine AWL.storeBox (i := 2) rfl rfl rfl ag_23 rfl (E rfl rfl) (E rfl rfl) rfl rfl (Nat.le_of_ble_eq_true rfl) ?_
   refine AWL.nil ?_
   refine AW.ret (retI (.cellA (i := 2) rfl ag_23 rfl rfl rfl .nil) ?_)
   rw [farR, if_neg (ne_true_of_eq_false h0f), farIn, if_neg (ne_true_of_eq_false h1f), if_pos h2t]
   exact ⟨rfl, _, rfl⟩
  try replace h2f := of_decide_eq_false h2f
  refine AW.rseq ?_
  refine AWL.y rfl rfl (B rfl) (Yv.fieldBox rfl fo_87_0 (E rfl rfl)) ?_
  refine AWL.y rfl rfl (B rfl) (Yv.loadBox rfl ag_3 (i := 1) rfl (E rfl rfl) rfl) ?_
  refine AWL.y rfl rfl (B rfl) (Yv.eql rfl (E rfl rfl) (E rfl rfl)) ?_
  refine AWL.y rfl rfl (B rfl) (Yv.move rfl (E rfl rfl)) ?_
  refine AWL.ygT rfl rfl rfl rfl (B rfl) (Yv.move rfl (E rfl rfl)) ?_
  refine AWL.ygT rfl rfl rfl rfl (B rfl) (Yv.eql rfl (Eg rfl rfl id) (E rfl rfl)) ?_
  refine AWL.y rfl rfl (B rfl) (Yv.pickAnd rfl (E rfl rfl) (Eg rfl rfl id)) ?_
  refine AWL.y rfl rfl (B rfl) (Yv.assign rfl (E rfl rfl)) ?_
  refine AWL.nil ?_
  refine AW.cond rfl (fun h3t => ?_) (fun h3f => ?_)
  ·
   try replace h3t := of_decide_eq_true h3t
   refine AW.rseq ?_
   refine AWL.y rfl rfl (B rfl) (Yv.move rfl (E rfl rfl)) ?_
   refine AWL.y rfl rfl (B rfl) (Yv.loadBoxA rfl ag_87 (i := 1) rfl (E rfl rfl) rfl rfl) ?_
   refine AWL.call rfl rfl (B rfl) rfl ce_78 (E rfl rfl) (evsC (E rfl rfl) (evsC (E rfl rfl) evs0)) (S1 := [Ent.box b 68 (rdCells bs (nextF bs (farD1 x r)).2)]) (S2 := _) rfl (two78 b bs (nextF bs (farD1 x r)).2 hb hok2 x) ?_
   rintro t94 S94 ⟨rfl, E94, rfl⟩
   refine AWL.tuck ?_
   refine AWL.y rfl rfl (B rfl) (Yv.move rfl (E rfl rfl)) ?_
   refine AWL.y rfl rfl (B rfl) (Yv.extract rfl (E rfl rfl) rfl) ?_
   refine AWL.y rfl rfl (B rfl) (Yv.extract rfl (E rfl rfl) rfl) ?_
   refine AWL.y rfl rfl (B rfl) (Yv.assign rfl (E rfl rfl)) ?_
   refine AWL.y rfl rfl (B rfl) (Yv.assign rfl (E rfl rfl)) ?_
   refine AWL.nil ?_
   refine AW.rseq ?_
   refine AWL.y rfl rfl (B rfl) (Yv.move rfl (E rfl rfl)) ?_
   refine AWL.y rfl rfl (B rfl) (Yv.move rfl (E rfl rfl)) ?_
   refine AWL.y rfl rfl (B rfl) (Yv.buildS rfl sh_23 (evpC (E rfl rfl) (evpC (E rfl rfl) (evpC (E rfl rfl) evp0))) (fun _ => rfl)) ?_
   refine AWL.storeBox (i := 2) rfl rfl rfl ag_23 rfl (E rfl rfl) (E rfl rfl) rfl rfl (Nat.le_of_ble_eq_true rfl) ?_
   refine AWL.nil ?_
   refine AW.ret (retI (.cellA (i := 2) rfl ag_23 rfl rfl rfl .nil) ?_)
   rw [farR, if_neg (ne_true_of_eq_false h0f), farIn, if_neg (ne_true_of_eq_false h1f), if_neg (ne_true_of_eq_false h2f), if_pos h3t]
   exact ⟨rfl, _, rfl⟩
  try replace h3f := of_decide_eq_false h3f
  refine AW.rseq ?_
  refine AWL.y rfl rfl (B rfl) (Yv.fieldBox rfl fo_87_0 (E rfl rfl)) ?_
  refine AWL.y rfl rfl (B rfl) (Yv.loadBox rfl ag_3 (i := 1) rfl (E rfl rfl) rfl) ?_
  refine AWL.y rfl rfl (B rfl) (Yv.eql rfl (E rfl rfl) (E rfl rfl)) ?_
  refine AWL.y rfl rfl (B rfl) (Yv.move rfl (E rfl rfl)) ?_
  refine AWL.ygT rfl rfl rfl rfl (B rfl) (Yv.move rfl (E rfl rfl)) ?_
  refine AWL.ygT rfl rfl rfl rfl (B rfl) (Yv.eql rfl (Eg rfl rfl id) (E rfl rfl)) ?_
  refine AWL.y rfl rfl (B rfl) (Yv.pickAnd rfl (E rfl rfl) (Eg rfl rfl id)) ?_
  refine AWL.y rfl rfl (B rfl) (Yv.assign rfl (E rfl rfl)) ?_
  refine AWL.nil ?_
  refine AW.cond rfl (fun h4t => ?_) (fun h4f => ?_)
  ·
   try replace h4t := of_decide_eq_true h4t
   refine AW.seq ?_
   refine AW.rseqQ rfl (by kernel_rfl) ?_
   refine AWQ.y rfl rfl (B rfl) (Yv.move rfl (E rfl rfl)) ?_
   refine AWQ.y rfl rfl (B rfl) (Yv.nilChk rfl (E rfl rfl)) ?_
   refine AWQ.y rfl rfl (B rfl) (Yv.fieldBox rfl fo_68_1 (E rfl rfl)) ?_
   refine AWQ.y rfl rfl (B rfl) (Yv.loadBox rfl ag_3 (i := 0) rfl (E rfl rfl) rfl) ?_
   refine AWQ.y rfl rfl (B rfl) (Yv.move rfl (E rfl rfl)) ?_
   refine AWQ.y rfl rfl (B rfl) (Yv.nilChk rfl (E rfl rfl)) ?_
   refine AWQ.y rfl rfl (B rfl) (Yv.fieldBox rfl fo_68_0 (E rfl rfl)) ?_
   refine AWQ.y rfl rfl (B rfl) (Yv.loadBox rfl ag_24 (i := 0) rfl (E rfl rfl) rfl) ?_
   refine AWQ.y rfl rfl (B rfl) (Yv.lenSl rfl so_24 (B rfl) (E rfl rfl) len_u8s) ?_
   refine AWQ.y rfl rfl (B rfl) (Yv.lss rfl (E rfl rfl) (E rfl rfl)) ?_
   refine AWQ.y rfl rfl (B rfl) (Yv.move rfl (E rfl rfl)) ?_
   refine AWQ.ygT rfl rfl rfl rfl (B rfl) (Yv.move rfl (E rfl rfl)) ?_
   refine AWQ.ygT rfl rfl rfl rfl (B rfl) (Yv.nilChk rfl (Eg rfl rfl id)) ?_
   refine AWQ.ygT rfl rfl rfl rfl (B rfl) (Yv.fieldBox rfl fo_68_0 (Eg rfl rfl id)) ?_
   refine AWQ.ygT rfl rfl rfl rfl (B rfl) (Yv.loadBox rfl ag_24 (i := 0) rfl (Eg rfl rfl id) rfl) ?_
   refine AWQ.ygT rfl rfl rfl rfl (B rfl) (Yv.move rfl (E rfl rfl)) ?_
   refine AWQ.ygT rfl rfl rfl rfl (B rfl) (Yv.nilChk rfl (Eg rfl rfl id)) ?_
   refine AWQ.ygT rfl rfl rfl rfl (B rfl) (Yv.fieldBox rfl fo_68_1 (Eg rfl rfl id)) ?_
   refine AWQ.ygT rfl rfl rfl rfl (B rfl) (Yv.loadBox rfl ag_3 (i := 0) rfl (Eg rfl rfl id) rfl) ?_
   refine AWQ.ygT rfl rfl rfl rfl (B rfl) (Yv.indexSl rfl ss_24 (B rfl) (Eg rfl rfl id) (Eg rfl rfl id) (fun hg => ⟨rfl, (by first | omega | (simp only [len_u8s, len_ints]; omega) | (simp only [len_u8s, len_ints]; simp only [Bool.and_eq_true, Bool.or_eq_false_iff, Bool.not_eq_true', Bool.not_eq_false', decide_eq_true_eq, decide_eq_false_iff_not] at hg; omega))⟩)) ?_
   refine AWQ.ygT rfl rfl rfl rfl (B rfl) (Yv.loadRp rfl ag_5 (Eg rfl rfl id) (fun hg => u8_get (by simp only [Bool.true_and, decide_eq_true_eq] at hg; omega))) ?_
   refine AWQ.ygT rfl rfl rfl rfl (B rfl) (Yv.shrC 64 (by decide) (by decide) (by decide) rfl (Eg rfl rfl id) (E rfl rfl)) ?_
   refine AWQ.ygT rfl rfl rfl rfl (B rfl) (Yv.eql rfl (Eg rfl rfl id) (E rfl rfl)) ?_
   refine AWQ.y rfl rfl (B rfl) (Yv.pickAnd rfl (E rfl rfl) (Eg rfl rfl id)) ?_
   refine AWQ.nil ?_
   refine AW.cond rfl (fun h5t => ?_) (fun h5f => ?_)
   ·
    try replace h5t := of_decide_eq_true h5t
    refine AW.rseq ?_
    refine AWL.y rfl rfl (B rfl) (Yv.move rfl (E rfl rfl)) ?_
    refine AWL.y rfl rfl (B rfl) (Yv.loadBoxA rfl ag_87 (i := 1) rfl (E rfl rfl) rfl rfl) ?_
    refine AWL.call rfl rfl (B rfl) rfl ce_74 (E rfl rfl) (evsC (E rfl rfl) (evsC (E rfl rfl) evs0)) (S1 := [Ent.box b 68 (rdCells bs (nextF bs (farD1 x r)).2)]) (S2 := _) rfl (mem74 b bs (nextF bs (farD1 x r)).2 hb hok2 x) ?_
    rintro t135 S135 ⟨rfl, E135, rfl⟩
    refine AWL.tuck ?_
    refine AWL.y rfl rfl (B rfl) (Yv.move rfl (E rfl rfl)) ?_
    refine AWL.y rfl rfl (B rfl) (Yv.extract rfl (E rfl rfl) rfl) ?_
    refine AWL.y rfl rfl (B rfl) (Yv.extract rfl (E rfl rfl) rfl) ?_
    refine AWL.y rfl rfl (B rfl) (Yv.extract rfl (E rfl rfl) rfl) ?_
    refine AWL.y rfl rfl (B rfl) (Yv.assign rfl (E rfl rfl)) ?_
    refine AWL.y rfl rfl (B rfl) (Yv.assign rfl (E rfl rfl)) ?_
    refine AWL.y rfl rfl (B rfl) (Yv.assign rfl (E rfl rfl)) ?_
    refine AWL.nil ?_
    refine AW.rseq ?_
    refine AWL.y rfl rfl (B rfl) (Yv.move rfl (E rfl rfl)) ?_
    refine AWL.y rfl rfl (B rfl) (Yv.move rfl (E rfl rfl)) ?_
    refine AWL.y rfl rfl (B rfl) (Yv.move rfl (E rfl rfl)) ?_
    refine AWL.y rfl rfl (B rfl) (Yv.buildS rfl sh_23 (evpC (E rfl rfl) (evpC (E rfl rfl) (evpC (E rfl rfl) (evpC (E rfl rfl) (evpC (E rfl rfl) evp0))))) (fun _ => rfl)) ?_
    refine AWL.storeBox (i := 2) rfl rfl rfl ag_23 rfl (E rfl rfl) (E rfl rfl) rfl rfl (Nat.le_of_ble_eq_true rfl) ?_
    refine AWL.nil ?_
    refine AW.ret (retI (.cellA (i := 2) rfl ag_23 rfl rfl rfl .nil) ?_)
    rw [farR, if_neg (ne_true_of_eq_false h0f), farIn, if_neg (ne_true_of_eq_false h1f), if_neg (ne_true_of_eq_false h2f), if_neg (ne_true_of_eq_false h3f), if_pos h4t, if_pos (show peekF bs (nextF bs (farD1 x r)).2 = true from h5t)]
    exact ⟨rfl, _, rfl⟩
   try replace h5f := of_decide_eq_false h5f
   refine AW.skip ?_
   refine AW.rseq ?_
   refine AWL.y rfl rfl (B rfl) (Yv.move rfl (E rfl rfl)) ?_
   refine AWL.y rfl rfl (B rfl) (Yv.loadBoxA rfl ag_87 (i := 1) rfl (E rfl rfl) rfl rfl) ?_
   refine AWL.call rfl rfl (B rfl) rfl ce_78 (E rfl rfl) (evsC (E rfl rfl) (evsC (E rfl rfl) evs0)) (S1 := [Ent.box b 68 (rdCells bs (nextF bs (farD1 x r)).2)]) (S2 := _) rfl (two78 b bs (nextF bs (farD1 x r)).2 hb hok2 x) ?_
   rintro t146 S146 ⟨rfl, E146, rfl⟩
   refine AWL.tuck ?_
   refine AWL.y rfl rfl (B rfl) (Yv.move rfl (E rfl rfl)) ?_
   refine AWL.y rfl rfl (B rfl) (Yv.extract rfl (E rfl rfl) rfl) ?_
   refine AWL.y rfl rfl (B rfl) (Yv.extract rfl (E rfl rfl) rfl) ?_
   refine AWL.y rfl rfl (B rfl) (Yv.assign rfl (E rfl rfl)) ?_
   refine AWL.y rfl rfl (B rfl) (Yv.assign rfl (E rfl rfl)) ?_
   refine AWL.nil ?_
   refine AW.rseq ?_
   refine AWL.y rfl rfl (B rfl) (Yv.move rfl (E rfl rfl)) ?_
   refine AWL.y rfl rfl (B rfl) (Yv.move rfl (E rfl rfl)) ?_
   refine AWL.y rfl rfl (B rfl) (Yv.buildS rfl sh_23 (evpC (E rfl rfl) (evpC (E rfl rfl) (evpC (E rfl rfl) evp0))) (fun _ => rfl)) ?_
   refine AWL.storeBox (i := 2) rfl rfl rfl ag_23 rfl (E rfl rfl) (E rfl rfl) rfl rfl (Nat.le_of_ble_eq_true rfl) ?_
   refine AWL.nil ?_
   refine AW.ret (retI (.cellA (i := 2) rfl ag_23 rfl rfl rfl .nil) ?_)
   rw [farR, if_neg (ne_true_of_eq_false h0f), farIn, if_neg (ne_true_of_eq_false h1f), if_neg (ne_true_of_eq_false h2f), if_neg (ne_true_of_eq_false h3f), if_pos h4t, if_neg (show ¬ peekF bs (nextF bs (farD1 x r)).2 = true from ne_true_of_eq_false h5f)]
   exact ⟨rfl, _, rfl⟩
  try replace h4f := of_decide_eq_false h4f
  refine AW.skip ?_
  refine AW.rseq ?_
  refine AWL.y rfl rfl (B rfl) (Yv.move rfl (E rfl rfl)) ?_
  refine AWL.call rfl rfl (B rfl) rfl ce_59 (E rfl rfl) (evsC (E rfl rfl) (evsC (E rfl rfl) evs0)) (S1 := [Ent.box b 68 (rdCells bs (nextF bs (farD1 x r)).2)]) (S2 := _) rfl (must64 b bs (nextF bs (farD1 x r)).2 false) ?_
  rintro t153 S153 rfl
  refine AWL.nil ?_
  refine AW.rseq ?_
  refine AWL.y rfl rfl (B rfl) (Yv.buildS rfl sh_23 evp0 (fun _ => rfl)) ?_
  refine AWL.storeBox (i := 2) rfl rfl rfl ag_23 rfl (E rfl rfl) (E rfl rfl) rfl rfl (Nat.le_of_ble_eq_true rfl) ?_
  refine AWL.nil ?_
  refine AW.ret (retI (.cellA (i := 2) rfl ag_23 rfl rfl rfl .nil) ?_)
  rw [farR, if_neg (ne_true_of_eq_false h0f), farIn, if_neg (ne_true_of_eq_false h1f), if_neg (ne_true_of_eq_false h2f), if_neg (ne_true_of_eq_false h3f), if_neg (ne_true_of_eq_false h4f)]
  exact ⟨rfl, _, rfl⟩

end Go.Proofs.YtjndpakhmgapjaaDoor

namespace Go.Proofs.YtjndpakhmgapjaaDoor
open Go Go.RowKit
set_option linter.unusedVariables false
set_option linter.unnecessarySimpa false
set_option linter.unusedSimpArgs false

set_option maxHeartbeats 2000000 in
theorem real67 (b : Nat) (bs : List UInt8) (r : Rd) (hb : bs.length ≤ 1099511627776) (hr : RdOk bs r) (first : Int) :
    ACalls Tryd.prog 62 [.v (.pointer (some ⟨b, 0, none⟩)), .v (.int .i64 first)] [Ent.box b 68 (rdCells bs r)] (fun t_ S => t_ = insT (realR bs first r).1 ∧ ∃ E, S = Ent.box b 68 (rdCells bs (realR bs first r).2) :: E) := by
  obtain ⟨hx0, hx1⟩ := next_range bs r
  have hok1 : RdOk bs (realD1 bs r) := must_ok (next_ok hr) _
  have hok2 : RdOk bs (realD2 bs r) := must_ok (next_ok hok1) _
  have hok3 := next_ok hok2
  refine ACalls.intro Tryd.func62 rfl Tryd.ntmps62 (Nat.le_of_ble_eq_true rfl) rfl fun X w0 => ?_
  refine AW.rseq ?_
  refine AWL.allocOp rfl rfl (B rfl) rfl zc_23 (fun b4 => ?_)
  refine AWL.nil ?_
  refine AW.rseq ?_
  refine AWL.y rfl rfl (B rfl) (Yv.move rfl (E rfl rfl)) ?_
  refine AWL.call rfl rfl (B rfl) rfl ce_58 (E rfl rfl) (evsC (E rfl rfl) evs0) (S1 := [Ent.box b 68 (rdCells bs r)]) (S2 := _) rfl (next63 b bs r hb hr) ?_
  rintro t15 S15 ⟨rfl, rfl⟩
  refine AWL.y rfl rfl (B rfl) (Yv.assign rfl (E rfl rfl)) ?_
  refine AWL.nil ?_
  refine AW.seq ?_
  refine AW.rseq ?_
  refine AWL.y rfl rfl (B rfl) (Yv.move rfl (E rfl rfl)) ?_
  refine AWL.y rfl rfl (B rfl) (Yv.nilChk rfl (E rfl rfl)) ?_
  refine AWL.y rfl rfl (B rfl) (Yv.fieldBox rfl fo_68_2 (E rfl rfl)) ?_
  refine AWL.y rfl rfl (B rfl) (Yv.loadBox rfl ag_4 (i := 0) rfl (E rfl rfl) rfl) ?_
  refine AWL.nil ?_
  refine AW.cond rfl (fun h0t => ?_) (fun h0f => ?_)
  ·
   try replace h0t := of_decide_eq_true h0t
   refine AW.rseq ?_
   refine AWL.y rfl rfl (B rfl) (Yv.buildS rfl sh_23 evp0 (fun _ => rfl)) ?_
   refine AWL.storeBox (i := 1) rfl rfl rfl ag_23 rfl (E rfl rfl) (E rfl rfl) rfl rfl (Nat.le_of_ble_eq_true rfl) ?_
   refine AWL.nil ?_
   refine AW.ret (retI (.cellA (i := 1) rfl ag_23 rfl rfl rfl .nil) ?_)
   rw [realR, if_pos h0t]
   exact ⟨rfl, _, rfl⟩
  try replace h0f := of_decide_eq_false h0f
  refine AW.skip ?_
  refine AW.rseq ?_
  refine AWL.y rfl rfl (B rfl) (Yv.move rfl (E rfl rfl)) ?_
  refine AWL.y rfl rfl (B rfl) (Yv.move rfl (E rfl rfl)) ?_
  refine AWL.y rfl rfl (B rfl) (Yv.bits rfl rfl (E rfl rfl) (E rfl rfl)) ?_
  refine AWL.y rfl rfl (B rfl) (Yv.eql rfl (E rfl rfl) (E rfl rfl)) ?_
  refine AWL.call rfl rfl (B rfl) rfl ce_59 (E rfl rfl) (evsC (E rfl rfl) (evsC (E rfl rfl) evs0)) (S1 := [Ent.box b 68 (rdCells bs (nextF bs r).2)]) (S2 := _) rfl (must64 b bs (nextF bs r).2 (decide (andI (nextF bs r).1 242 = 64))) ?_
  rintro t25 S25 rfl
  refine AWL.nil ?_
  refine AW.rseq ?_
  refine AWL.y rfl rfl (B rfl) (Yv.move rfl (E rfl rfl)) ?_
  refine AWL.callT rfl rfl (B rfl) rfl ce_61 (E rfl rfl) (evsC (E rfl rfl) evs0) (split66 (nextF bs r).1 hx0 hx1) ?_
  rintro t27 S27 rfl
  refine AWL.allocOp rfl rfl (B rfl) rfl zc_87 (fun b6 => ?_)
  refine AWL.storeBox (i := 2) rfl rfl rfl ag_87 rfl (E rfl rfl) (E rfl rfl) rfl rfl (Nat.le_of_ble_eq_true rfl) ?_
  refine AWL.nil ?_
  refine AW.rseq ?_
  refine AWL.y rfl rfl (B rfl) (Yv.move rfl (E rfl rfl)) ?_
  refine AWL.call rfl rfl (B rfl) rfl ce_58 (E rfl rfl) (evsC (E rfl rfl) evs0) (S1 := [Ent.box b 68 (rdCells bs (realD1 bs r))]) (S2 := _) rfl (next63 b bs (realD1 bs r) hb hok1) ?_
  rintro t29 S29 ⟨rfl, rfl⟩
  refine AWL.y rfl rfl (B rfl) (Yv.assign rfl (E rfl rfl)) ?_
  refine AWL.nil ?_
  refine AW.rseq ?_
  refine AWL.y rfl rfl (B rfl) (Yv.move rfl (E rfl rfl)) ?_
  refine AWL.y rfl rfl (B rfl) (Yv.move rfl (E rfl rfl)) ?_
  refine AWL.y rfl rfl (B rfl) (Yv.eql rfl (E rfl rfl) (E rfl rfl)) ?_
  refine AWL.call rfl rfl (B rfl) rfl ce_59 (E rfl rfl) (evsC (E rfl rfl) (evsC (E rfl rfl) evs0)) (S1 := [Ent.box b 68 (rdCells bs (nextF bs (realD1 bs r)).2)]) (S2 := _) rfl (must64 b bs (nextF bs (realD1 bs r)).2 (decide ((nextF bs (realD1 bs r)).1 = 15))) ?_
  rintro t33 S33 rfl
  refine AWL.nil ?_
  refine AW.rseq ?_
  refine AWL.y rfl rfl (B rfl) (Yv.move rfl (E rfl rfl)) ?_
  refine AWL.call rfl rfl (B rfl) rfl ce_58 (E rfl rfl) (evsC (E rfl rfl) evs0) (S1 := [Ent.box b 68 (rdCells bs (realD2 bs r))]) (S2 := _) rfl (next63 b bs (realD2 bs r) hb hok2) ?_
  rintro t35 S35 ⟨rfl, rfl⟩
  refine AWL.y rfl rfl (B rfl) (Yv.assign rfl (E rfl rfl)) ?_
  refine AWL.nil ?_
  refine AW.seq ?_
  refine AW.rseq ?_
  refine AWL.y rfl rfl (B rfl) (Yv.move rfl (E rfl rfl)) ?_
  refine AWL.y rfl rfl (B rfl) (Yv.nilChk rfl (E rfl rfl)) ?_
  refine AWL.y rfl rfl (B rfl) (Yv.fieldBox rfl fo_68_2 (E rfl rfl)) ?_
  refine AWL.y rfl rfl (B rfl) (Yv.loadBox rfl ag_4 (i := 0) rfl (E rfl rfl) rfl) ?_
  refine AWL.y rfl rfl (B rfl) (Yv.move rfl (E rfl rfl)) ?_
  refine AWL.ygF rfl rfl rfl rfl (B rfl) (Yv.move rfl (E rfl rfl)) ?_
  refine AWL.ygF rfl rfl rfl rfl (B rfl) (Yv.nilChk rfl (Eg rfl rfl id)) ?_
  refine AWL.ygF rfl rfl rfl rfl (B rfl) (Yv.fieldBox rfl fo_68_3 (Eg rfl rfl id)) ?_
  refine AWL.ygF rfl rfl rfl rfl (B rfl) (Yv.loadBox rfl ag_4 (i := 0) rfl (Eg rfl rfl id) rfl) ?_
  refine AWL.y rfl rfl (B rfl) (Yv.pickOr (t := .const (.bool true)) rfl (E rfl rfl) (Eg rfl rfl id)) ?_
  refine AWL.nil ?_
  refine AW.cond rfl (fun h1t => ?_) (fun h1f => ?_)
  ·
   try replace h1t := of_decide_eq_true h1t
   refine AW.rseq ?_
   refine AWL.y rfl rfl (B rfl) (Yv.buildS rfl sh_23 evp0 (fun _ => rfl)) ?_
   refine AWL.storeBox (i := 1) rfl rfl rfl ag_23 rfl (E rfl rfl) (E rfl rfl) rfl rfl (Nat.le_of_ble_eq_true rfl) ?_
   refine AWL.nil ?_
   refine AW.ret (retI (.cellA (i := 1) rfl ag_23 rfl rfl rfl .nil) ?_)
   rw [realR, if_neg (ne_true_of_eq_false h0f), if_pos h1t]
   exact ⟨rfl, _, rfl⟩
  try replace h1f := of_decide_eq_false h1f
  refine AW.skip ?_
  refine AW.rseq ?_
  refine AWL.y rfl rfl (B rfl) (Yv.assign rfl (E rfl rfl)) ?_
  refine AWL.nil ?_
  refine AW.mid (α := Unit) (fun _ => [(0, true, .v (.pointer (some ⟨b, 0, none⟩))), (1, true, .v (.int .i64 first)), (4, true, .v (.pointer (some ⟨b4, 0, none⟩))), (6, true, .v (.pointer (some ⟨b6, 0, none⟩))), (8, true, .v (.int .i64 (nextF bs (realD2 bs r)).1)), (9, true, .v (.int .i64 (realK first (splitF (nextF bs r).1) (nextF bs (realD2 bs r)).1)))]) (fun _ => [Ent.box b 68 (rdCells bs (nextF bs (realD2 bs r)).2), .box b4 23 (insCells nilI), .box b6 87 (rxCells (splitF (nextF bs r).1))]) (fun _ => ¬ (decide (first = 102) && decide ((splitF (nextF bs r).1).wide = 1) && decide ((nextF bs (realD2 bs r)).1 = 126)) = true) ?_ ?_
  ·
   refine AW.block ?_
   refine AW.rseq ?_
   refine AWL.y rfl rfl (B rfl) (Yv.move rfl (E rfl rfl)) ?_
   refine AWL.y rfl rfl (B rfl) (Yv.eql rfl (E rfl rfl) (E rfl rfl)) ?_
   refine AWL.y rfl rfl (B rfl) (Yv.move rfl (E rfl rfl)) ?_
   refine AWL.ygT rfl rfl rfl rfl (B rfl) (Yv.fieldBox rfl fo_87_0 (E rfl rfl)) ?_
   refine AWL.ygT rfl rfl rfl rfl (B rfl) (Yv.loadBox rfl ag_3 (i := 2) rfl (Eg rfl rfl id) rfl) ?_
   refine AWL.ygT rfl rfl rfl rfl (B rfl) (Yv.eql rfl (Eg rfl rfl id) (E rfl rfl)) ?_
   refine AWL.y rfl rfl (B rfl) (Yv.pickAnd rfl (E rfl rfl) (Eg rfl rfl id)) ?_
   refine AWL.y rfl rfl (B rfl) (Yv.move rfl (E rfl rfl)) ?_
   refine AWL.ygT rfl rfl rfl rfl (B rfl) (Yv.move rfl (E rfl rfl)) ?_
   refine AWL.ygT rfl rfl rfl rfl (B rfl) (Yv.eql rfl (Eg rfl rfl id) (E rfl rfl)) ?_
   refine AWL.y rfl rfl (B rfl) (Yv.pickAnd rfl (E rfl rfl) (Eg rfl rfl id)) ?_
   refine AWL.y rfl rfl (B rfl) (Yv.assign rfl (E rfl rfl)) ?_
   refine AWL.nil ?_
   refine AW.cond rfl (fun h2t => ?_) (fun h2f => ?_)
   ·
    try replace h2t := of_decide_eq_true h2t
    refine AW.region ?_
    refine AWL.y rfl rfl (B rfl) (Yv.assign rfl (E rfl rfl)) ?_
    refine AWL.nil ?_
    exact ⟨(), (by intro hq; simp only [Bool.or_eq_true, Bool.and_eq_true, Bool.or_eq_false_iff, Bool.and_eq_false_iff, Bool.not_eq_true', Bool.not_eq_false', decide_eq_true_eq, decide_eq_false_iff_not, Decidable.not_not] at hq h2t; omega), (Sub.cons rfl rfl (Sub.cons rfl rfl (Sub.cons rfl rfl (Sub.cons rfl rfl (Sub.cons rfl rfl (Sub.cons rfl (by rw [realK, if_pos h2t] <;> rfl) Sub.nil)))))), rfl⟩
   try replace h2f := of_decide_eq_false h2f
   refine AW.rseq ?_
   refine AWL.y rfl rfl (B rfl) (Yv.move rfl (E rfl rfl)) ?_
   refine AWL.y rfl rfl (B rfl) (Yv.eql rfl (E rfl rfl) (E rfl rfl)) ?_
   refine AWL.y rfl rfl (B rfl) (Yv.move rfl (E rfl rfl)) ?_
   refine AWL.ygT rfl rfl rfl rfl (B rfl) (Yv.fieldBox rfl fo_87_0 (E rfl rfl)) ?_
   refine AWL.ygT rfl rfl rfl rfl (B rfl) (Yv.loadBox rfl ag_3 (i := 2) rfl (Eg rfl rfl id) rfl) ?_
   refine AWL.ygT rfl rfl rfl rfl (B rfl) (Yv.eql rfl (Eg rfl rfl id) (E rfl rfl)) ?_
   refine AWL.y rfl rfl (B rfl) (Yv.pickAnd rfl (E rfl rfl) (Eg rfl rfl id)) ?_
   refine AWL.y rfl rfl (B rfl) (Yv.move rfl (E rfl rfl)) ?_
   refine AWL.ygT rfl rfl rfl rfl (B rfl) (Yv.move rfl (E rfl rfl)) ?_
   refine AWL.ygT rfl rfl rfl rfl (B rfl) (Yv.eql rfl (Eg rfl rfl id) (E rfl rfl)) ?_
   refine AWL.y rfl rfl (B rfl) (Yv.pickAnd rfl (E rfl rfl) (Eg rfl rfl id)) ?_
   refine AWL.y rfl rfl (B rfl) (Yv.assign rfl (E rfl rfl)) ?_
   refine AWL.nil ?_
   refine AW.cond rfl (fun h3t => ?_) (fun h3f => ?_)
   ·
    try replace h3t := of_decide_eq_true h3t
    refine AW.rseq ?_
    refine AWL.y rfl rfl (B rfl) (Yv.move rfl (E rfl rfl)) ?_
    refine AWL.y rfl rfl (B rfl) (Yv.loadBoxA rfl ag_87 (i := 2) rfl (E rfl rfl) rfl rfl) ?_
    refine AWL.call rfl rfl (B rfl) rfl ce_78 (E rfl rfl) (evsC (E rfl rfl) (evsC (E rfl rfl) evs0)) (S1 := [Ent.box b 68 (rdCells bs (nextF bs (realD2 bs r)).2)]) (S2 := _) rfl (two78 b bs (nextF bs (realD2 bs r)).2 hb hok3 (splitF (nextF bs r).1)) ?_
    rintro t74 S74 ⟨rfl, E74, rfl⟩
    refine AWL.tuck ?_
    refine AWL.y rfl rfl (B rfl) (Yv.move rfl (E rfl rfl)) ?_
    refine AWL.y rfl rfl (B rfl) (Yv.extract rfl (E rfl rfl) rfl) ?_
    refine AWL.y rfl rfl (B rfl) (Yv.extract rfl (E rfl rfl) rfl) ?_
    refine AWL.y rfl rfl (B rfl) (Yv.assign rfl (E rfl rfl)) ?_
    refine AWL.y rfl rfl (B rfl) (Yv.assign rfl (E rfl rfl)) ?_
    refine AWL.nil ?_
    refine AW.rseq ?_
    refine AWL.y rfl rfl (B rfl) (Yv.move rfl (E rfl rfl)) ?_
    refine AWL.y rfl rfl (B rfl) (Yv.move rfl (E rfl rfl)) ?_
    refine AWL.y rfl rfl (B rfl) (Yv.buildS rfl sh_23 (evpC (E rfl rfl) (evpC (E rfl rfl) (evpC (E rfl rfl) evp0))) (fun _ => rfl)) ?_
    refine AWL.storeBox (i := 1) rfl rfl rfl ag_23 rfl (E rfl rfl) (E rfl rfl) rfl rfl (Nat.le_of_ble_eq_true rfl) ?_
    refine AWL.nil ?_
    refine AW.ret (retI (.cellA (i := 1) rfl ag_23 rfl rfl rfl .nil) ?_)
    rw [realR, if_neg (ne_true_of_eq_false h0f), if_neg (ne_true_of_eq_false h1f), realIn, if_pos h3t]
    exact ⟨rfl, _, rfl⟩
   try replace h3f := of_decide_eq_false h3f
   refine AW.rseq ?_
   refine AWL.y rfl rfl (B rfl) (Yv.move rfl (E rfl rfl)) ?_
   refine AWL.y rfl rfl (B rfl) (Yv.eql rfl (E rfl rfl) (E rfl rfl)) ?_
   refine AWL.y rfl rfl (B rfl) (Yv.move rfl (E rfl rfl)) ?_
   refine AWL.ygT rfl rfl rfl rfl (B rfl) (Yv.fieldBox rfl fo_87_0 (E rfl rfl)) ?_
   refine AWL.ygT rfl rfl rfl rfl (B rfl) (Yv.loadBox rfl ag_3 (i := 2) rfl (Eg rfl rfl id) rfl) ?_
   refine AWL.ygT rfl rfl rfl rfl (B rfl) (Yv.eql rfl (Eg rfl rfl id) (E rfl rfl)) ?_
   refine AWL.y rfl rfl (B rfl) (Yv.pickAnd rfl (E rfl rfl) (Eg rfl rfl id)) ?_
   refine AWL.y rfl rfl (B rfl) (Yv.move rfl (E rfl rfl)) ?_
   refine AWL.ygT rfl rfl rfl rfl (B rfl) (Yv.move rfl (E rfl rfl)) ?_
   refine AWL.ygT rfl rfl rfl rfl (B rfl) (Yv.eql rfl (Eg rfl rfl id) (E rfl rfl)) ?_
   refine AWL.y rfl rfl (B rfl) (Yv.pickAnd rfl (E rfl rfl) (Eg rfl rfl id)) ?_
   refine AWL.y rfl rfl (B rfl) (Yv.assign rfl (E rfl rfl)) ?_
   refine AWL.nil ?_
   refine AW.cond rfl (fun h4t => ?_) (fun h4f => ?_)
   ·
    try replace h4t := of_decide_eq_true h4t
    refine AW.region ?_
    refine AWL.y rfl rfl (B rfl) (Yv.assign rfl (E rfl rfl)) ?_
    refine AWL.nil ?_
    exact ⟨(), (ne_true_of_eq_false h3f), (Sub.cons rfl rfl (Sub.cons rfl rfl (Sub.cons rfl rfl (Sub.cons rfl rfl (Sub.cons rfl rfl (Sub.cons rfl (by rw [realK, if_neg (ne_true_of_eq_false h2f), if_pos h4t] <;> rfl) Sub.nil)))))), rfl⟩
   try replace h4f := of_decide_eq_false h4f
   refine AW.rseq ?_
   refine AWL.y rfl rfl (B rfl) (Yv.move rfl (E rfl rfl)) ?_
   refine AWL.y rfl rfl (B rfl) (Yv.eql rfl (E rfl rfl) (E rfl rfl)) ?_
   refine AWL.y rfl rfl (B rfl) (Yv.move rfl (E rfl rfl)) ?_
   refine AWL.ygT rfl rfl rfl rfl (B rfl) (Yv.fieldBox rfl fo_87_0 (E rfl rfl)) ?_
   refine AWL.ygT rfl rfl rfl rfl (B rfl) (Yv.loadBox rfl ag_3 (i := 2) rfl (Eg rfl rfl id) rfl) ?_
   refine AWL.ygT rfl rfl rfl rfl (B rfl) (Yv.eql rfl (Eg rfl rfl id) (E rfl rfl)) ?_
   refine AWL.y rfl rfl (B rfl) (Yv.pickAnd rfl (E rfl rfl) (Eg rfl rfl id)) ?_
   refine AWL.y rfl rfl (B rfl) (Yv.move rfl (E rfl rfl)) ?_
   refine AWL.ygT rfl rfl rfl rfl (B rfl) (Yv.move rfl (E rfl rfl)) ?_
   refine AWL.ygT rfl rfl rfl rfl (B rfl) (Yv.eql rfl (Eg rfl rfl id) (E rfl rfl)) ?_
   refine AWL.y rfl rfl (B rfl) (Yv.pickAnd rfl (E rfl rfl) (Eg rfl rfl id)) ?_
   refine AWL.y rfl rfl (B rfl) (Yv.assign rfl (E rfl rfl)) ?_
   refine AWL.nil ?_
   refine AW.cond rfl (fun h5t => ?_) (fun h5f => ?_)
   ·
    try replace h5t := of_decide_eq_true h5t
    refine AW.region ?_
    refine AWL.y rfl rfl (B rfl) (Yv.assign rfl (E rfl rfl)) ?_
    refine AWL.nil ?_
    exact ⟨(), (ne_true_of_eq_false h3f), (Sub.cons rfl rfl (Sub.cons rfl rfl (Sub.cons rfl rfl (Sub.cons rfl rfl (Sub.cons rfl rfl (Sub.cons rfl (by rw [realK, if_neg (ne_true_of_eq_false h2f), if_neg (ne_true_of_eq_false h4f), if_pos h5t] <;> rfl) Sub.nil)))))), rfl⟩
   try replace h5f := of_decide_eq_false h5f
   refine AW.rseq ?_
   refine AWL.y rfl rfl (B rfl) (Yv.move rfl (E rfl rfl)) ?_
   refine AWL.y rfl rfl (B rfl) (Yv.eql rfl (E rfl rfl) (E rfl rfl)) ?_
   refine AWL.y rfl rfl (B rfl) (Yv.move rfl (E rfl rfl)) ?_
   refine AWL.ygT rfl rfl rfl rfl (B rfl) (Yv.fieldBox rfl fo_87_0 (E rfl rfl)) ?_
   refine AWL.ygT rfl rfl rfl rfl (B rfl) (Yv.loadBox rfl ag_3 (i := 2) rfl (Eg rfl rfl id) rfl) ?_
   refine AWL.ygT rfl rfl rfl rfl (B rfl) (Yv.eql rfl (Eg rfl rfl id) (E rfl rfl)) ?_
   refine AWL.y rfl rfl (B rfl) (Yv.pickAnd rfl (E rfl rfl) (Eg rfl rfl id)) ?_
   refine AWL.y rfl rfl (B rfl) (Yv.move rfl (E rfl rfl)) ?_
   refine AWL.ygT rfl rfl rfl rfl (B rfl) (Yv.move rfl (E rfl rfl)) ?_
   refine AWL.ygT rfl rfl rfl rfl (B rfl) (Yv.eql rfl (Eg rfl rfl id) (E rfl rfl)) ?_
   refine AWL.y rfl rfl (B rfl) (Yv.pickAnd rfl (E rfl rfl) (Eg rfl rfl id)) ?_
   refine AWL.y rfl rfl (B rfl) (Yv.assign rfl (E rfl rfl)) ?_
   refine AWL.nil ?_
   refine AW.cond rfl (fun h6t => ?_) (fun h6f => ?_)
   ·
    try replace h6t := of_decide_eq_true h6t
    refine AW.region ?_
    refine AWL.y rfl rfl (B rfl) (Yv.assign rfl (E rfl rfl)) ?_
    refine AWL.nil ?_
    exact ⟨(), (ne_true_of_eq_false h3f), (Sub.cons rfl rfl (Sub.cons rfl rfl (Sub.cons rfl rfl (Sub.cons rfl rfl (Sub.cons rfl rfl (Sub.cons rfl (by rw [realK, if_neg (ne_true_of_eq_false h2f), if_neg (ne_true_of_eq_false h4f), if_neg (ne_true_of_eq_false h5f), if_pos h6t] <;> rfl) Sub.nil)))))), rfl⟩
   try replace h6f := of_decide_eq_false h6f
   refine AW.rseq ?_
   refine AWL.y rfl rfl (B rfl) (Yv.move rfl (E rfl rfl)) ?_
   refine AWL.y rfl rfl (B rfl) (Yv.eql rfl (E rfl rfl) (E rfl rfl)) ?_
   refine AWL.y rfl rfl (B rfl) (Yv.move rfl (E rfl rfl)) ?_
   refine AWL.ygT rfl rfl rfl rfl (B rfl) (Yv.fieldBox rfl fo_87_0 (E rfl rfl)) ?_
   refine AWL.ygT rfl rfl rfl rfl (B rfl) (Yv.loadBox rfl ag_3 (i := 2) rfl (Eg rfl rfl id) rfl) ?_
   refine AWL.ygT rfl rfl rfl rfl (B rfl) (Yv.eql rfl (Eg rfl rfl id) (E rfl rfl)) ?_
   refine AWL.y rfl rfl (B rfl) (Yv.pickAnd rfl (E rfl rfl) (Eg rfl rfl id)) ?_
   refine AWL.y rfl rfl (B rfl) (Yv.move rfl (E rfl rfl)) ?_
   refine AWL.ygT rfl rfl rfl rfl (B rfl) (Yv.move rfl (E rfl rfl)) ?_
   refine AWL.ygT rfl rfl rfl rfl (B rfl) (Yv.eql rfl (Eg rfl rfl id) (E rfl rfl)) ?_
   refine AWL.y rfl rfl (B rfl) (Yv.pickAnd rfl (E rfl rfl) (Eg rfl rfl id)) ?_
   refine AWL.y rfl rfl (B rfl) (Yv.assign rfl (E rfl rfl)) ?_
   refine AWL.nil ?_
   refine AW.cond rfl (fun h7t => ?_) (fun h7f => ?_)
   ·
    try replace h7t := of_decide_eq_true h7t
    refine AW.region ?_
    refine AWL.y rfl rfl (B rfl) (Yv.assign rfl (E rfl rfl)) ?_
    refine AWL.nil ?_
    exact ⟨(), (ne_true_of_eq_false h3f), (Sub.cons rfl rfl (Sub.cons rfl rfl (Sub.cons rfl rfl (Sub.cons rfl rfl (Sub.cons rfl rfl (Sub.cons rfl (by rw [realK, if_neg (ne_true_of_eq_false h2f), if_neg (ne_true_of_eq_false h4f), if_neg (ne_true_of_eq_false h5f), if_neg (ne_true_of_eq_false h6f), if_pos h7t] <;> rfl) Sub.nil)))))), rfl⟩
   try replace h7f := of_decide_eq_false h7f
   refine AW.rseq ?_
   refine AWL.y rfl rfl (B rfl) (Yv.move rfl (E rfl rfl)) ?_
   refine AWL.y rfl rfl (B rfl) (Yv.eql rfl (E rfl rfl) (E rfl rfl)) ?_
   refine AWL.y rfl rfl (B rfl) (Yv.move rfl (E rfl rfl)) ?_
   refine AWL.ygT rfl rfl rfl rfl (B rfl) (Yv.fieldBox rfl fo_87_0 (E rfl rfl)) ?_
   refine AWL.ygT rfl rfl rfl rfl (B rfl) (Yv.loadBox rfl ag_3 (i := 2) rfl (Eg rfl rfl id) rfl) ?_
   refine AWL.ygT rfl rfl rfl rfl (B rfl) (Yv.eql rfl (Eg rfl rfl id) (E rfl rfl)) ?_
   refine AWL.y rfl rfl (B rfl) (Yv.pickAnd rfl (E rfl rfl) (Eg rfl rfl id)) ?_
   refine AWL.y rfl rfl (B rfl) (Yv.move rfl (E rfl rfl)) ?_
   refine AWL.ygT rfl rfl rfl rfl (B rfl) (Yv.move rfl (E rfl rfl)) ?_
   refine AWL.ygT rfl rfl rfl rfl (B rfl) (Yv.eql rfl (Eg rfl rfl id) (E rfl rfl)) ?_
   refine AWL.y rfl rfl (B rfl) (Yv.pickAnd rfl (E rfl rfl) (Eg rfl rfl id)) ?_
   refine AWL.y rfl rfl (B rfl) (Yv.assign rfl (E rfl rfl)) ?_
   refine AWL.nil ?_
   refine AW.cond rfl (fun h8t => ?_) (fun h8f => ?_)
   ·
    try replace h8t := of_decide_eq_true h8t
    refine AW.region ?_
    refine AWL.y rfl rfl (B rfl) (Yv.assign rfl (E rfl rfl)) ?_
    refine AWL.nil ?_
    exact ⟨(), (ne_true_of_eq_false h3f), (Sub.cons rfl rfl (Sub.cons rfl rfl (Sub.cons rfl rfl (Sub.cons rfl rfl (Sub.cons rfl rfl (Sub.cons rfl (by rw [realK, if_neg (ne_true_of_eq_false h2f), if_neg (ne_true_of_eq_false h4f), if_neg (ne_true_of_eq_false h5f), if_neg (ne_true_of_eq_false h6f), if_neg (ne_true_of_eq_false h7f), if_pos h8t] <;> rfl) Sub.nil)))))), rfl⟩
   try replace h8f := of_decide_eq_false h8f
   refine AW.rseq ?_
   refine AWL.y rfl rfl (B rfl) (Yv.move rfl (E rfl rfl)) ?_
   refine AWL.y rfl rfl (B rfl) (Yv.eql rfl (E rfl rfl) (E rfl rfl)) ?_
   refine AWL.y rfl rfl (B rfl) (Yv.move rfl (E rfl rfl)) ?_
   refine AWL.ygT rfl rfl rfl rfl (B rfl) (Yv.fieldBox rfl fo_87_0 (E rfl rfl)) ?_
   refine AWL.ygT rfl rfl rfl rfl (B rfl) (Yv.loadBox rfl ag_3 (i := 2) rfl (Eg rfl rfl id) rfl) ?_
   refine AWL.ygT rfl rfl rfl rfl (B rfl) (Yv.eql rfl (Eg rfl rfl id) (E rfl rfl)) ?_
   refine AWL.y rfl rfl (B rfl) (Yv.pickAnd rfl (E rfl rfl) (Eg rfl rfl id)) ?_
   refine AWL.y rfl rfl (B rfl) (Yv.move rfl (E rfl rfl)) ?_
   refine AWL.ygT rfl rfl rfl rfl (B rfl) (Yv.move rfl (E rfl rfl)) ?_
   refine AWL.ygT rfl rfl rfl rfl (B rfl) (Yv.eql rfl (Eg rfl rfl id) (E rfl rfl)) ?_
   refine AWL.y rfl rfl (B rfl) (Yv.pickAnd rfl (E rfl rfl) (Eg rfl rfl id)) ?_
   refine AWL.y rfl rfl (B rfl) (Yv.assign rfl (E rfl rfl)) ?_
   refine AWL.nil ?_
   refine AW.cond rfl (fun h9t => ?_) (fun h9f => ?_)
   ·
    try replace h9t := of_decide_eq_true h9t
    refine AW.region ?_
    refine AWL.y rfl rfl (B rfl) (Yv.assign rfl (E rfl rfl)) ?_
    refine AWL.nil ?_
    exact ⟨(), (ne_true_of_eq_false h3f), (Sub.cons rfl rfl (Sub.cons rfl rfl (Sub.cons rfl rfl (Sub.cons rfl rfl (Sub.cons rfl rfl (Sub.cons rfl (by rw [realK, if_neg (ne_true_of_eq_false h2f), if_neg (ne_true_of_eq_false h4f), if_neg (ne_true_of_eq_false h5f), if_neg (ne_true_of_eq_false h6f), if_neg (ne_true_of_eq_false h7f), if_neg (ne_true_of_eq_false h8f), if_pos h9t] <;> rfl) Sub.nil)))))), rfl⟩
   try replace h9f := of_decide_eq_false h9f
   refine AW.skip ?_
   exact ⟨(), (ne_true_of_eq_false h3f), (Sub.cons rfl rfl (Sub.cons rfl rfl (Sub.cons rfl rfl (Sub.cons rfl rfl (Sub.cons rfl rfl (Sub.cons rfl (by rw [realK, if_neg (ne_true_of_eq_false h2f), if_neg (ne_true_of_eq_false h4f), if_neg (ne_true_of_eq_false h5f), if_neg (ne_true_of_eq_false h6f), if_neg (ne_true_of_eq_false h7f), if_neg (ne_true_of_eq_false h8f), if_neg (ne_true_of_eq_false h9f)] <;> rfl) Sub.nil)))))), rfl⟩
  ·
   rintro _ hmid
   refine AW.rseq ?_
   refine AWL.y rfl rfl (B rfl) (Yv.move rfl (E rfl rfl)) ?_
   refine AWL.y rfl rfl (B rfl) (Yv.move rfl (E rfl rfl)) ?_
   refine AWL.y rfl rfl (B rfl) (Yv.gtr rfl (E rfl rfl) (E rfl rfl)) ?_
   refine AWL.call rfl rfl (B rfl) rfl ce_59 (E rfl rfl) (evsC (E rfl rfl) (evsC (E rfl rfl) evs0)) (S1 := [Ent.box b 68 (rdCells bs (nextF bs (realD2 bs r)).2)]) (S2 := _) rfl (must64 b bs (nextF bs (realD2 bs r)).2 (decide (0 < (realK first (splitF (nextF bs r).1) (nextF bs (realD2 bs r)).1)))) ?_
   rintro t155 S155 rfl
   refine AWL.nil ?_
   refine AW.rseq ?_
   refine AWL.y rfl rfl (B rfl) (Yv.move rfl (E rfl rfl)) ?_
   refine AWL.y rfl rfl (B rfl) (Yv.loadBoxA rfl ag_87 (i := 2) rfl (E rfl rfl) rfl rfl) ?_
   refine AWL.call rfl rfl (B rfl) rfl ce_78 (E rfl rfl) (evsC (E rfl rfl) (evsC (E rfl rfl) evs0)) (S1 := [Ent.box b 68 (rdCells bs (mustF (nextF bs (realD2 bs r)).2 (decide (0 < (realK first (splitF (nextF bs r).1) (nextF bs (realD2 bs r)).1)))))]) (S2 := _) rfl (two78 b bs (mustF (nextF bs (realD2 bs r)).2 (decide (0 < (realK first (splitF (nextF bs r).1) (nextF bs (realD2 bs r)).1)))) hb (must_ok hok3 _) (splitF (nextF bs r).1)) ?_
   rintro t159 S159 ⟨rfl, E159, rfl⟩
   refine AWL.tuck ?_
   refine AWL.y rfl rfl (B rfl) (Yv.move rfl (E rfl rfl)) ?_
   refine AWL.y rfl rfl (B rfl) (Yv.extract rfl (E rfl rfl) rfl) ?_
   refine AWL.y rfl rfl (B rfl) (Yv.extract rfl (E rfl rfl) rfl) ?_
   refine AWL.y rfl rfl (B rfl) (Yv.assign rfl (E rfl rfl)) ?_
   refine AWL.y rfl rfl (B rfl) (Yv.assign rfl (E rfl rfl)) ?_
   refine AWL.nil ?_
   refine AW.rseq ?_
   refine AWL.y rfl rfl (B rfl) (Yv.move rfl (E rfl rfl)) ?_
   refine AWL.y rfl rfl (B rfl) (Yv.move rfl (E rfl rfl)) ?_
   refine AWL.y rfl rfl (B rfl) (Yv.move rfl (E rfl rfl)) ?_
   refine AWL.y rfl rfl (B rfl) (Yv.buildS rfl sh_23 (evpC (E rfl rfl) (evpC (E rfl rfl) (evpC (E rfl rfl) evp0))) (fun _ => rfl)) ?_
   refine AWL.storeBox (i := 1) rfl rfl rfl ag_23 rfl (E rfl rfl) (E rfl rfl) rfl rfl (Nat.le_of_ble_eq_true rfl) ?_
   refine AWL.nil ?_
   refine AW.ret (retI (.cellA (i := 1) rfl ag_23 rfl rfl rfl .nil) ?_)
   rw [realR, if_neg (ne_true_of_eq_false h0f), if_neg (ne_true_of_eq_false h1f), realIn, if_neg hmid]
   exact ⟨rfl, _, rfl⟩

set_option maxHeartbeats 4000000 in
theorem prefixed65 (b : Nat) (bs : List UInt8) (r : Rd) (hb : bs.length ≤ 1099511627776) (hr : RdOk bs r) (x : Rx) :
    ACalls Tryd.prog 60 [.v (.pointer (some ⟨b, 0, none⟩)), rxT x] [Ent.box b 68 (rdCells bs r)] (fun t_ S => t_ = insT (prefR bs x r).1 ∧ ∃ E, S = Ent.box b 68 (rdCells bs (prefR bs x r).2) :: E) := by
  obtain ⟨hx0, hx1⟩ := next_range bs r
  have hok1 := next_ok hr
  have hokm : RdOk bs (mustF (nextF bs r).2 (decide (x.reg = 0))) := must_ok hok1 _
  have hoko : RdOk bs (mustF (oneD bs x (nextF bs r).2) (decide ((oneV bs x (nextF bs r).2).1 = 0))) := must_ok (one_ok hok1 x) _
  refine ACalls.intro Tryd.func60 rfl Tryd.ntmps60 (Nat.le_of_ble_eq_true rfl) rfl fun X w0 => ?_
  refine AW.rseq ?_
  refine AWL.boxOp rfl rfl (B rfl) rfl (E rfl rfl) rfl (fun b3 => ?_)
  refine AWL.allocOp rfl rfl (B rfl) rfl zc_23 (fun b4 => ?_)
  refine AWL.nil ?_
  refine AW.rseq ?_
  refine AWL.y rfl rfl (B rfl) (Yv.move rfl (E rfl rfl)) ?_
  refine AWL.call rfl rfl (B rfl) rfl ce_58 (E rfl rfl) (evsC (E rfl rfl) evs0) (S1 := [Ent.box b 68 (rdCells bs r)]) (S2 := _) rfl (next63 b bs r hb hr) ?_
  rintro t22 S22 ⟨rfl, rfl⟩
  refine AWL.y rfl rfl (B rfl) (Yv.assign rfl (E rfl rfl)) ?_
  refine AWL.nil ?_
  refine AW.seq ?_
  refine AW.rseq ?_
  refine AWL.y rfl rfl (B rfl) (Yv.move rfl (E rfl rfl)) ?_
  refine AWL.y rfl rfl (B rfl) (Yv.nilChk rfl (E rfl rfl)) ?_
  refine AWL.y rfl rfl (B rfl) (Yv.fieldBox rfl fo_68_2 (E rfl rfl)) ?_
  refine AWL.y rfl rfl (B rfl) (Yv.loadBox rfl ag_4 (i := 0) rfl (E rfl rfl) rfl) ?_
  refine AWL.y rfl rfl (B rfl) (Yv.move rfl (E rfl rfl)) ?_
  refine AWL.ygF rfl rfl rfl rfl (B rfl) (Yv.move rfl (E rfl rfl)) ?_
  refine AWL.ygF rfl rfl rfl rfl (B rfl) (Yv.nilChk rfl (Eg rfl rfl id)) ?_
  refine AWL.ygF rfl rfl rfl rfl (B rfl) (Yv.fieldBox rfl fo_68_3 (Eg rfl rfl id)) ?_
  refine AWL.ygF rfl rfl rfl rfl (B rfl) (Yv.loadBox rfl ag_4 (i := 0) rfl (Eg rfl rfl id) rfl) ?_
  refine AWL.y rfl rfl (B rfl) (Yv.pickOr (t := .const (.bool true)) rfl (E rfl rfl) (Eg rfl rfl id)) ?_
  refine AWL.nil ?_
  refine AW.cond rfl (fun h0t => ?_) (fun h0f => ?_)
  ·
   try replace h0t := of_decide_eq_true h0t
   refine AW.rseq ?_
   refine AWL.y rfl rfl (B rfl) (Yv.buildS rfl sh_23 evp0 (fun _ => rfl)) ?_
   refine AWL.storeBox (i := 2) rfl rfl rfl ag_23 rfl (E rfl rfl) (E rfl rfl) rfl rfl (Nat.le_of_ble_eq_true rfl) ?_
   refine AWL.nil ?_
   refine AW.ret (retI (.cellA (i := 2) rfl ag_23 rfl rfl rfl .nil) ?_)
   rw [prefR, if_pos h0t]
   exact ⟨rfl, _, rfl⟩
  try replace h0f := of_decide_eq_false h0f
  refine AW.skip ?_
  refine AW.seq ?_
  refine AW.rseq ?_
  refine AWL.y rfl rfl (B rfl) (Yv.move rfl (E rfl rfl)) ?_
  refine AWL.y rfl rfl (B rfl) (Yv.eql rfl (E rfl rfl) (E rfl rfl)) ?_
  refine AWL.nil ?_
  refine AW.cond rfl (fun h1t => ?_) (fun h1f => ?_)
  ·
   try replace h1t := of_decide_eq_true h1t
   refine AW.rseq ?_
   refine AWL.y rfl rfl (B rfl) (Yv.move rfl (E rfl rfl)) ?_
   refine AWL.y rfl rfl (B rfl) (Yv.loadBoxA rfl ag_87 (i := 1) rfl (E rfl rfl) rfl rfl) ?_
   refine AWL.call rfl rfl (B rfl) rfl ce_72 (E rfl rfl) (evsC (E rfl rfl) (evsC (E rfl rfl) evs0)) (S1 := [Ent.box b 68 (rdCells bs (nextF bs r).2)]) (S2 := _) rfl (far72 b bs (nextF bs r).2 hb hok1 x) ?_
   rintro t38 S38 ⟨rfl, E38, rfl⟩
   refine AWL.tuck ?_
   refine AWL.storeBox (i := 2) rfl rfl rfl ag_23 rfl (E rfl rfl) (E rfl rfl) rfl rfl (Nat.le_of_ble_eq_true rfl) ?_
   refine AWL.nil ?_
   refine AW.ret (retI (.cellA (i := 2) rfl ag_23 rfl rfl rfl .nil) ?_)
   rw [prefR, if_neg (ne_true_of_eq_false h0f), prefIn, if_pos h1t]
   exact ⟨rfl, _, rfl⟩
  try replace h1f := of_decide_eq_false h1f
  refine AW.skip ?_
  refine AW.seq ?_
  refine AW.rseq ?_
  refine AWL.y rfl rfl (B rfl) (Yv.fieldBox rfl fo_87_0 (E rfl rfl)) ?_
  refine AWL.y rfl rfl (B rfl) (Yv.loadBox rfl ag_3 (i := 1) rfl (E rfl rfl) rfl) ?_
  refine AWL.y rfl rfl (B rfl) (Yv.eql rfl (E rfl rfl) (E rfl rfl)) ?_
  refine AWL.nil ?_
  refine AW.cond rfl (fun h2t => ?_) (fun h2f => ?_)
  ·
   try replace h2t := of_decide_eq_true h2t
   refine AW.rseq ?_
   refine AWL.y rfl rfl (B rfl) (Yv.move rfl (E rfl rfl)) ?_
   refine AWL.y rfl rfl (B rfl) (Yv.loadBoxA rfl ag_87 (i := 1) rfl (E rfl rfl) rfl rfl) ?_
   refine AWL.y rfl rfl (B rfl) (Yv.move rfl (E rfl rfl)) ?_
   refine AWL.call rfl rfl (B rfl) rfl ce_73 (E rfl rfl) (evsC (E rfl rfl) (evsC (E rfl rfl) (evsC (E rfl rfl) evs0))) (S1 := [Ent.box b 68 (rdCells bs (nextF bs r).2)]) (S2 := _) rfl (narrow73 b bs (nextF bs r).2 hb hok1 x (nextF bs r).1 hx0 hx1) ?_
   rintro t45 S45 ⟨rfl, E45, rfl⟩
   refine AWL.tuck ?_
   refine AWL.storeBox (i := 2) rfl rfl rfl ag_23 rfl (E rfl rfl) (E rfl rfl) rfl rfl (Nat.le_of_ble_eq_true rfl) ?_
   refine AWL.nil ?_
   refine AW.ret (retI (.cellA (i := 2) rfl ag_23 rfl rfl rfl .nil) ?_)
   rw [prefR, if_neg (ne_true_of_eq_false h0f), prefIn, if_neg h1f, if_pos h2t]
   exact ⟨rfl, _, rfl⟩
  try replace h2f := of_decide_eq_false h2f
  refine AW.skip ?_
  refine AW.seq ?_
  refine AW.rseq ?_
  refine AWL.y rfl rfl (B rfl) (Yv.move rfl (E rfl rfl)) ?_
  refine AWL.y rfl rfl (B rfl) (Yv.bits rfl rfl (E rfl rfl) (E rfl rfl)) ?_
  refine AWL.y rfl rfl (B rfl) (Yv.eql rfl (E rfl rfl) (E rfl rfl)) ?_
  refine AWL.nil ?_
  refine AW.cond rfl (fun h3t => ?_) (fun h3f => ?_)
  ·
   try replace h3t := of_decide_eq_true h3t
   refine AW.rseq ?_
   refine AWL.y rfl rfl (B rfl) (Yv.move rfl (E rfl rfl)) ?_
   refine AWL.y rfl rfl (B rfl) (Yv.fieldBox rfl fo_87_1 (E rfl rfl)) ?_
   refine AWL.y rfl rfl (B rfl) (Yv.loadBox rfl ag_3 (i := 1) rfl (E rfl rfl) rfl) ?_
   refine AWL.y rfl rfl (B rfl) (Yv.eql rfl (E rfl rfl) (E rfl rfl)) ?_
   refine AWL.call rfl rfl (B rfl) rfl ce_59 (E rfl rfl) (evsC (E rfl rfl) (evsC (E rfl rfl) evs0)) (S1 := [Ent.box b 68 (rdCells bs (nextF bs r).2)]) (S2 := _) rfl (must64 b bs (nextF bs r).2 (decide (x.reg = 0))) ?_
   rintro t53 S53 rfl
   refine AWL.nil ?_
   refine AW.mid (α := Nat) (fun b6 => [(0, true, .v (.pointer (some ⟨b, 0, none⟩))), (3, true, .v (.pointer (some ⟨b3, 0, none⟩))), (4, true, .v (.pointer (some ⟨b4, 0, none⟩))), (6, true, .v (.pointer (some ⟨b6, 0, none⟩)))]) (fun b6 => [Ent.box b 68 (rdCells bs (immD bs (mustF (nextF bs r).2 (decide (x.reg = 0))) 8)), .box b3 87 (rxCells x), .box b4 23 (insCells nilI), .box b6 23 (insCells ⟨2, orI x.rm ((nextF bs r).1 % 8), 0, 0, 0, (immV bs (mustF (nextF bs r).2 (decide (x.reg = 0))) 8)⟩)]) (fun _ => True) ?_ ?_
   ·
    refine AW.regionH (HeldBox b3 (rxVals x)) rfl (tells_box (k := 1) rfl) ?_
    refine AWH.tk (i := 0) rfl rfl rfl (B rfl) (heldAll (freeField rfl fo_87_2 (E rfl rfl))) ?_
    refine AWH.tk (i := 1) rfl rfl rfl (B rfl) (heldLoad rfl ag_3 (E rfl rfl) rfl) ?_
    refine AWH.tk (i := 2) rfl rfl rfl (B rfl) (heldAll (freeMove rfl (E rfl rfl))) ?_
    refine AWH.tk (i := 3) rfl rfl rfl (B rfl) (heldAll (freeAndN_i64 3 8 (by decide) (by decide) (by decide) rfl (E rfl rfl) (E rfl rfl) ⟨by omega, by omega⟩)) ?_
    refine AWH.tk (i := 4) rfl rfl rfl (B rfl) (heldAll (freeBits rfl rfl (E rfl rfl) (E rfl rfl))) ?_
    refine AWH.tk (i := 5) rfl rfl rfl (B rfl) (heldAll (freeMove rfl (E rfl rfl))) ?_
    refine AWH.two (i := 6) (j := 8) (by kernel_rfl) rfl rfl ?_ ?_
    ·
     refine AWL.call rfl rfl (B rfl) rfl ce_63 (E rfl rfl) (evsC (E rfl rfl) (evsC (E rfl rfl) evs0)) (S1 := [Ent.box b 68 (rdCells bs (mustF (nextF bs r).2 (decide (x.reg = 0))))]) (S2 := _) rfl (imm68 b bs (mustF (nextF bs r).2 (decide (x.reg = 0))) hb hokm 8 (.inr (.inr rfl))) ?_
     rintro t60 S60 ⟨rfl, rfl⟩
     refine tb 1 rfl ?_
     refine AWH.two (i := 7) (j := 8) (by kernel_rfl) rfl rfl ?_ ?_
     ·
      refine AWL.y rfl rfl (B rfl) (Yv.buildS rfl sh_23 (evpC (E rfl rfl) (evpC (E rfl rfl) (evpC (E rfl rfl) evp0))) (fun _ => rfl)) ?_
      refine tb 1 rfl ?_
      refine AWH.one (i := 8) (by kernel_rfl) rfl ?_
      refine AWL.allocOp rfl rfl (B rfl) rfl zc_23 (fun b6 => ?_)
      refine tb 1 rfl ?_
      refine AWH.one (i := 9) (by kernel_rfl) rfl ?_
      refine AWL.storeBox (i := 3) rfl rfl rfl ag_23 rfl (E rfl rfl) (E rfl rfl) rfl rfl (Nat.le_of_ble_eq_true rfl) ?_
      refine tb 1 rfl ?_
      refine AWH.done (by kernel_rfl) ?_
      exact ⟨b6, trivial, (Sub.cons rfl rfl (Sub.cons rfl rfl (Sub.cons rfl rfl (Sub.cons rfl rfl Sub.nil)))), rfl⟩
     ·
      refine AWL.allocOp rfl rfl (B rfl) rfl zc_23 (fun b6 => ?_)
      refine tb 1 rfl ?_
      refine AWH.one (i := 7) (by kernel_rfl) rfl ?_
      refine AWL.y rfl rfl (B rfl) (Yv.buildS rfl sh_23 (evpC (E rfl rfl) (evpC (E rfl rfl) (evpC (E rfl rfl) evp0))) (fun _ => rfl)) ?_
      refine tb 1 rfl ?_
      refine AWH.one (i := 9) (by kernel_rfl) rfl ?_
      refine AWL.storeBox (i := 3) rfl rfl rfl ag_23 rfl (E rfl rfl) (E rfl rfl) rfl rfl (Nat.le_of_ble_eq_true rfl) ?_
      refine tb 1 rfl ?_
      refine AWH.done (by kernel_rfl) ?_
      exact ⟨b6, trivial, (Sub.cons rfl rfl (Sub.cons rfl rfl (Sub.cons rfl rfl (Sub.cons rfl rfl Sub.nil)))), rfl⟩
    ·
     refine AWL.allocOp rfl rfl (B rfl) rfl zc_23 (fun b6 => ?_)
     refine tb 1 rfl ?_
     refine AWH.one (i := 6) (by kernel_rfl) rfl ?_
     refine AWL.call rfl rfl (B rfl) rfl ce_63 (E rfl rfl) (evsC (E rfl rfl) (evsC (E rfl rfl) evs0)) (S1 := [Ent.box b 68 (rdCells bs (mustF (nextF bs r).2 (decide (x.reg = 0))))]) (S2 := _) rfl (imm68 b bs (mustF (nextF bs r).2 (decide (x.reg = 0))) hb hokm 8 (.inr (.inr rfl))) ?_
     rintro t60 S60 ⟨rfl, rfl⟩
     refine tb 1 rfl ?_
     refine AWH.one (i := 7) (by kernel_rfl) rfl ?_
     refine AWL.y rfl rfl (B rfl) (Yv.buildS rfl sh_23 (evpC (E rfl rfl) (evpC (E rfl rfl) (evpC (E rfl rfl) evp0))) (fun _ => rfl)) ?_
     refine tb 1 rfl ?_
     refine AWH.one (i := 9) (by kernel_rfl) rfl ?_
     refine AWL.storeBox (i := 3) rfl rfl rfl ag_23 rfl (E rfl rfl) (E rfl rfl) rfl rfl (Nat.le_of_ble_eq_true rfl) ?_
     refine tb 1 rfl ?_
     refine AWH.done (by kernel_rfl) ?_
     exact ⟨b6, trivial, (Sub.cons rfl rfl (Sub.cons rfl rfl (Sub.cons rfl rfl (Sub.cons rfl rfl Sub.nil)))), rfl⟩
   ·
    rintro b6 hmid
    refine AW.rseq ?_
    refine AWL.y rfl rfl (B rfl) (Yv.move rfl (E rfl rfl)) ?_
    refine AWL.y rfl rfl (B rfl) (Yv.fieldBox rfl fo_23_5 (E rfl rfl)) ?_
    refine AWL.y rfl rfl (B rfl) (Yv.loadBox rfl ag_2 (i := 3) rfl (E rfl rfl) rfl) ?_
    refine AWL.callP rfl rfl (B rfl) rfl ce_31 (E rfl rfl) (evsC (E rfl rfl) evs0) (small38 (immV bs (mustF (nextF bs r).2 (decide (x.reg = 0))) 8)) (fun t S h => h) ?_
    refine AWL.y rfl rfl (B rfl) (Yv.not rfl (E rfl rfl)) ?_
    refine AWL.call rfl rfl (B rfl) rfl ce_59 (E rfl rfl) (evsC (E rfl rfl) (evsC (E rfl rfl) evs0)) (S1 := [Ent.box b 68 (rdCells bs (immD bs (mustF (nextF bs r).2 (decide (x.reg = 0))) 8))]) (S2 := _) rfl (must64 b bs (immD bs (mustF (nextF bs r).2 (decide (x.reg = 0))) 8) (!smallF (immV bs (mustF (nextF bs r).2 (decide (x.reg = 0))) 8))) ?_
    rintro t67 S67 rfl
    refine AWL.nil ?_
    refine AW.rseq ?_
    refine AWL.y rfl rfl (B rfl) (Yv.loadBoxA rfl ag_23 (i := 3) rfl (E rfl rfl) rfl rfl) ?_
    refine AWL.storeBox (i := 2) rfl rfl rfl ag_23 rfl (E rfl rfl) (E rfl rfl) rfl rfl (Nat.le_of_ble_eq_true rfl) ?_
    refine AWL.nil ?_
    refine AW.ret (retI (.cellA (i := 2) rfl ag_23 rfl rfl rfl .nil) ?_)
    rw [prefR, if_neg (ne_true_of_eq_false h0f), prefIn, if_neg h1f, if_neg h2f, if_pos h3t]
    exact ⟨rfl, _, rfl⟩
  try replace h3f := of_decide_eq_false h3f
  refine AW.skip ?_
  refine AW.seq ?_
  refine AW.rseq ?_
  refine AWL.y rfl rfl (B rfl) (Yv.move rfl (E rfl rfl)) ?_
  refine AWL.nil ?_
  refine AW.block ?_
  refine AW.rseq ?_
  refine AWL.y rfl rfl (B rfl) (Yv.eql rfl (E rfl rfl) (E rfl rfl)) ?_
  refine AWL.y rfl rfl (B rfl) (Yv.assign rfl (E rfl rfl)) ?_
  refine AWL.nil ?_
  refine AW.cond rfl (fun h4t => ?_) (fun h4f => ?_)
  ·
   try replace h4t := of_decide_eq_true h4t
   refine AW.rseq ?_
   refine AWL.y rfl rfl (B rfl) (Yv.move rfl (E rfl rfl)) ?_
   refine AWL.y rfl rfl (B rfl) (Yv.loadBoxA rfl ag_87 (i := 1) rfl (E rfl rfl) rfl rfl) ?_
   refine AWL.call rfl rfl (B rfl) rfl ce_74 (E rfl rfl) (evsC (E rfl rfl) (evsC (E rfl rfl) evs0)) (S1 := [Ent.box b 68 (rdCells bs (nextF bs r).2)]) (S2 := _) rfl (mem74 b bs (nextF bs r).2 hb hok1 x) ?_
   rintro t75 S75 ⟨rfl, E75, rfl⟩
   refine AWL.tuck ?_
   refine AWL.y rfl rfl (B rfl) (Yv.move rfl (E rfl rfl)) ?_
   refine AWL.y rfl rfl (B rfl) (Yv.extract rfl (E rfl rfl) rfl) ?_
   refine AWL.y rfl rfl (B rfl) (Yv.extract rfl (E rfl rfl) rfl) ?_
   refine AWL.y rfl rfl (B rfl) (Yv.extract rfl (E rfl rfl) rfl) ?_
   refine AWL.y rfl rfl (B rfl) (Yv.assign rfl (E rfl rfl)) ?_
   refine AWL.y rfl rfl (B rfl) (Yv.assign rfl (E rfl rfl)) ?_
   refine AWL.y rfl rfl (B rfl) (Yv.assign rfl (E rfl rfl)) ?_
   refine AWL.nil ?_
   refine AW.rseq ?_
   refine AWL.y rfl rfl (B rfl) (Yv.move rfl (E rfl rfl)) ?_
   refine AWL.y rfl rfl (B rfl) (Yv.move rfl (E rfl rfl)) ?_
   refine AWL.y rfl rfl (B rfl) (Yv.move rfl (E rfl rfl)) ?_
   refine AWL.y rfl rfl (B rfl) (Yv.buildS rfl sh_23 (evpC (E rfl rfl) (evpC (E rfl rfl) (evpC (E rfl rfl) (evpC (E rfl rfl) (evpC (E rfl rfl) evp0))))) (fun _ => rfl)) ?_
   refine AWL.storeBox (i := 2) rfl rfl rfl ag_23 rfl (E rfl rfl) (E rfl rfl) rfl rfl (Nat.le_of_ble_eq_true rfl) ?_
   refine AWL.nil ?_
   refine AW.ret (retI (.cellA (i := 2) rfl ag_23 rfl rfl rfl .nil) ?_)
   rw [prefR, if_neg (ne_true_of_eq_false h0f), prefIn, if_neg h1f, if_neg h2f, if_neg h3f, if_pos h4t]
   exact ⟨rfl, _, rfl⟩
  try replace h4f := of_decide_eq_false h4f
  refine AW.rseq ?_
  refine AWL.y rfl rfl (B rfl) (Yv.eql rfl (E rfl rfl) (E rfl rfl)) ?_
  refine AWL.y rfl rfl (B rfl) (Yv.assign rfl (E rfl rfl)) ?_
  refine AWL.nil ?_
  refine AW.cond rfl (fun h5t => ?_) (fun h5f => ?_)
  ·
   try replace h5t := of_decide_eq_true h5t
   refine AW.rseq ?_
   refine AWL.y rfl rfl (B rfl) (Yv.move rfl (E rfl rfl)) ?_
   refine AWL.y rfl rfl (B rfl) (Yv.loadBoxA rfl ag_87 (i := 1) rfl (E rfl rfl) rfl rfl) ?_
   refine AWL.call rfl rfl (B rfl) rfl ce_74 (E rfl rfl) (evsC (E rfl rfl) (evsC (E rfl rfl) evs0)) (S1 := [Ent.box b 68 (rdCells bs (nextF bs r).2)]) (S2 := _) rfl (mem74 b bs (nextF bs r).2 hb hok1 x) ?_
   rintro t88 S88 ⟨rfl, E88, rfl⟩
   refine AWL.tuck ?_
   refine AWL.y rfl rfl (B rfl) (Yv.move rfl (E rfl rfl)) ?_
   refine AWL.y rfl rfl (B rfl) (Yv.extract rfl (E rfl rfl) rfl) ?_
   refine AWL.y rfl rfl (B rfl) (Yv.extract rfl (E rfl rfl) rfl) ?_
   refine AWL.y rfl rfl (B rfl) (Yv.extract rfl (E rfl rfl) rfl) ?_
   refine AWL.y rfl rfl (B rfl) (Yv.assign rfl (E rfl rfl)) ?_
   refine AWL.y rfl rfl (B rfl) (Yv.assign rfl (E rfl rfl)) ?_
   refine AWL.y rfl rfl (B rfl) (Yv.assign rfl (E rfl rfl)) ?_
   refine AWL.nil ?_
   refine AW.rseq ?_
   refine AWL.y rfl rfl (B rfl) (Yv.move rfl (E rfl rfl)) ?_
   refine AWL.y rfl rfl (B rfl) (Yv.move rfl (E rfl rfl)) ?_
   refine AWL.y rfl rfl (B rfl) (Yv.move rfl (E rfl rfl)) ?_
   refine AWL.y rfl rfl (B rfl) (Yv.buildS rfl sh_23 (evpC (E rfl rfl) (evpC (E rfl rfl) (evpC (E rfl rfl) (evpC (E rfl rfl) evp0)))) (fun _ => rfl)) ?_
   refine AWL.storeBox (i := 2) rfl rfl rfl ag_23 rfl (E rfl rfl) (E rfl rfl) rfl rfl (Nat.le_of_ble_eq_true rfl) ?_
   refine AWL.nil ?_
   refine AW.ret (retI (.cellA (i := 2) rfl ag_23 rfl rfl rfl .nil) ?_)
   rw [prefR, if_neg (ne_true_of_eq_false h0f), prefIn, if_neg h1f, if_neg h2f, if_neg h3f, if_neg h4f, if_pos h5t]
   exact ⟨rfl, _, rfl⟩
  try replace h5f := of_decide_eq_false h5f
  refine AW.rseq ?_
  refine AWL.y rfl rfl (B rfl) (Yv.eql rfl (E rfl rfl) (E rfl rfl)) ?_
  refine AWL.y rfl rfl (B rfl) (Yv.assign rfl (E rfl rfl)) ?_
  refine AWL.nil ?_
  refine AW.cond rfl (fun h6t => ?_) (fun h6f => ?_)
  ·
   try replace h6t := of_decide_eq_true h6t
   refine AW.rseq ?_
   refine AWL.y rfl rfl (B rfl) (Yv.move rfl (E rfl rfl)) ?_
   refine AWL.y rfl rfl (B rfl) (Yv.loadBoxA rfl ag_87 (i := 1) rfl (E rfl rfl) rfl rfl) ?_
   refine AWL.call rfl rfl (B rfl) rfl ce_75 (E rfl rfl) (evsC (E rfl rfl) (evsC (E rfl rfl) evs0)) (S1 := [Ent.box b 68 (rdCells bs (nextF bs r).2)]) (S2 := _) rfl (moved75 b bs (nextF bs r).2 hb hok1 x) ?_
   rintro t100 S100 ⟨rfl, E100, rfl⟩
   refine AWL.tuck ?_
   refine AWL.storeBox (i := 2) rfl rfl rfl ag_23 rfl (E rfl rfl) (E rfl rfl) rfl rfl (Nat.le_of_ble_eq_true rfl) ?_
   refine AWL.nil ?_
   refine AW.ret (retI (.cellA (i := 2) rfl ag_23 rfl rfl rfl .nil) ?_)
   rw [prefR, if_neg (ne_true_of_eq_false h0f), prefIn, if_neg h1f, if_neg h2f, if_neg h3f, if_neg h4f, if_neg h5f, if_pos h6t]
   exact ⟨rfl, _, rfl⟩
  try replace h6f := of_decide_eq_false h6f
  refine AW.rseq ?_
  refine AWL.y rfl rfl (B rfl) (Yv.eql rfl (E rfl rfl) (E rfl rfl)) ?_
  refine AWL.y rfl rfl (B rfl) (Yv.assign rfl (E rfl rfl)) ?_
  refine AWL.nil ?_
  refine AW.cond rfl (fun h7t => ?_) (fun h7f => ?_)
  ·
   try replace h7t := of_decide_eq_true h7t
   refine AW.rseq ?_
   refine AWL.y rfl rfl (B rfl) (Yv.move rfl (E rfl rfl)) ?_
   refine AWL.y rfl rfl (B rfl) (Yv.loadBoxA rfl ag_87 (i := 1) rfl (E rfl rfl) rfl rfl) ?_
   refine AWL.call rfl rfl (B rfl) rfl ce_76 (E rfl rfl) (evsC (E rfl rfl) (evsC (E rfl rfl) evs0)) (S1 := [Ent.box b 68 (rdCells bs (nextF bs r).2)]) (S2 := _) rfl (one76 b bs (nextF bs r).2 hb hok1 x) ?_
   rintro t106 S106 ⟨rfl, E106, rfl⟩
   refine AWL.tuck ?_
   refine AWL.y rfl rfl (B rfl) (Yv.move rfl (E rfl rfl)) ?_
   refine AWL.y rfl rfl (B rfl) (Yv.extract rfl (E rfl rfl) rfl) ?_
   refine AWL.y rfl rfl (B rfl) (Yv.extract rfl (E rfl rfl) rfl) ?_
   refine AWL.y rfl rfl (B rfl) (Yv.assign rfl (E rfl rfl)) ?_
   refine AWL.y rfl rfl (B rfl) (Yv.assign rfl (E rfl rfl)) ?_
   refine AWL.nil ?_
   refine AW.rseq ?_
   refine AWL.y rfl rfl (B rfl) (Yv.move rfl (E rfl rfl)) ?_
   refine AWL.y rfl rfl (B rfl) (Yv.move rfl (E rfl rfl)) ?_
   refine AWL.y rfl rfl (B rfl) (Yv.eql rfl (E rfl rfl) (E rfl rfl)) ?_
   refine AWL.call rfl rfl (B rfl) rfl ce_59 (E rfl rfl) (evsC (E rfl rfl) (evsC (E rfl rfl) evs0)) (S1 := [Ent.box b 68 (rdCells bs (oneD bs x (nextF bs r).2))]) (S2 := _) rfl (must64 b bs (oneD bs x (nextF bs r).2) (decide ((oneV bs x (nextF bs r).2).1 = 0))) ?_
   rintro t112 S112 rfl
   refine AWL.nil ?_
   refine AW.rseq ?_
   refine AWL.y rfl rfl (B rfl) (Yv.move rfl (E rfl rfl)) ?_
   refine AWL.y rfl rfl (B rfl) (Yv.move rfl (E rfl rfl)) ?_
   refine AWL.call rfl rfl (B rfl) rfl ce_63 (E rfl rfl) (evsC (E rfl rfl) (evsC (E rfl rfl) evs0)) (S1 := [Ent.box b 68 (rdCells bs (mustF (oneD bs x (nextF bs r).2) (decide ((oneV bs x (nextF bs r).2).1 = 0))))]) (S2 := _) rfl (imm68 b bs (mustF (oneD bs x (nextF bs r).2) (decide ((oneV bs x (nextF bs r).2).1 = 0))) hb hoko 4 (.inr (.inl rfl))) ?_
   rintro t115 S115 ⟨rfl, rfl⟩
   refine AWL.y rfl rfl (B rfl) (Yv.buildS rfl sh_23 (evpC (E rfl rfl) (evpC (E rfl rfl) (evpC (E rfl rfl) evp0))) (fun _ => rfl)) ?_
   refine AWL.storeBox (i := 2) rfl rfl rfl ag_23 rfl (E rfl rfl) (E rfl rfl) rfl rfl (Nat.le_of_ble_eq_true rfl) ?_
   refine AWL.nil ?_
   refine AW.ret (retI (.cellA (i := 2) rfl ag_23 rfl rfl rfl .nil) ?_)
   rw [prefR, if_neg (ne_true_of_eq_false h0f), prefIn, if_neg h1f, if_neg h2f, if_neg h3f, if_neg h4f, if_neg h5f, if_neg h6f, if_pos h7t]
   exact ⟨rfl, _, rfl⟩
  try replace h7f := of_decide_eq_false h7f
  refine AW.mid (α := Unit) (fun _ => [(0, true, .v (.pointer (some ⟨b, 0, none⟩))), (3, true, .v (.pointer (some ⟨b3, 0, none⟩))), (4, true, .v (.pointer (some ⟨b4, 0, none⟩))), (5, true, .v (.int .i64 (nextF bs r).1)), (117, true, .v (.bool (decide ((nextF bs r).1 = 129) || (decide ((nextF bs r).1 = 247) || (decide ((nextF bs r).1 = 211) || decide ((nextF bs r).1 = 193))))))]) (fun _ => [Ent.box b 68 (rdCells bs (nextF bs r).2), .box b3 87 (rxCells x), .box b4 23 (insCells nilI)]) (fun _ => True) ?_ ?_
  ·
   refine AW.rseq ?_
   refine AWL.y rfl rfl (B rfl) (Yv.eql rfl (E rfl rfl) (E rfl rfl)) ?_
   refine AWL.y rfl rfl (B rfl) (Yv.assign rfl (E rfl rfl)) ?_
   refine AWL.nil ?_
   refine AW.cond rfl (fun h8t => ?_) (fun h8f => ?_)
   ·
    try replace h8t := of_decide_eq_true h8t
    refine AW.skip ?_
    exact ⟨(), trivial, (Sub.cons rfl rfl (Sub.cons rfl rfl (Sub.cons rfl rfl (Sub.cons rfl rfl (Sub.cons rfl (by simp [h8t]) Sub.nil))))), rfl⟩
   try replace h8f := of_decide_eq_false h8f
   refine AW.rseq ?_
   refine AWL.y rfl rfl (B rfl) (Yv.eql rfl (E rfl rfl) (E rfl rfl)) ?_
   refine AWL.y rfl rfl (B rfl) (Yv.assign rfl (E rfl rfl)) ?_
   refine AWL.nil ?_
   refine AW.cond rfl (fun h9t => ?_) (fun h9f => ?_)
   ·
    try replace h9t := of_decide_eq_true h9t
    refine AW.skip ?_
    exact ⟨(), trivial, (Sub.cons rfl rfl (Sub.cons rfl rfl (Sub.cons rfl rfl (Sub.cons rfl rfl (Sub.cons rfl (by simp [h8f, h9t]) Sub.nil))))), rfl⟩
   try replace h9f := of_decide_eq_false h9f
   refine AW.rseq ?_
   refine AWL.y rfl rfl (B rfl) (Yv.eql rfl (E rfl rfl) (E rfl rfl)) ?_
   refine AWL.y rfl rfl (B rfl) (Yv.assign rfl (E rfl rfl)) ?_
   refine AWL.nil ?_
   refine AW.cond rfl (fun h10t => ?_) (fun h10f => ?_)
   ·
    try replace h10t := of_decide_eq_true h10t
    refine AW.skip ?_
    exact ⟨(), trivial, (Sub.cons rfl rfl (Sub.cons rfl rfl (Sub.cons rfl rfl (Sub.cons rfl rfl (Sub.cons rfl (by simp [h8f, h9f, h10t]) Sub.nil))))), rfl⟩
   try replace h10f := of_decide_eq_false h10f
   refine AW.region ?_
   refine AWL.y rfl rfl (B rfl) (Yv.eql rfl (E rfl rfl) (E rfl rfl)) ?_
   refine AWL.y rfl rfl (B rfl) (Yv.assign rfl (E rfl rfl)) ?_
   refine AWL.nil ?_
   exact ⟨(), trivial, (Sub.cons rfl rfl (Sub.cons rfl rfl (Sub.cons rfl rfl (Sub.cons rfl rfl (Sub.cons rfl (by simp [h8f, h9f, h10f]) Sub.nil))))), rfl⟩
  ·
   rintro _ hmid
   refine AW.cond rfl (fun h11t => ?_) (fun h11f => ?_)
   ·
    try replace h11t := of_decide_eq_true h11t
    have h11 := h11t
    simp only [Bool.or_eq_true, decide_eq_true_eq] at h11
    refine AW.rseq ?_
    refine AWL.y rfl rfl (B rfl) (Yv.move rfl (E rfl rfl)) ?_
    refine AWL.y rfl rfl (B rfl) (Yv.loadBoxA rfl ag_87 (i := 1) rfl (E rfl rfl) rfl rfl) ?_
    refine AWL.y rfl rfl (B rfl) (Yv.move rfl (E rfl rfl)) ?_
    refine AWL.call rfl rfl (B rfl) rfl ce_77 (E rfl rfl) (evsC (E rfl rfl) (evsC (E rfl rfl) (evsC (E rfl rfl) evs0))) (S1 := [Ent.box b 68 (rdCells bs (nextF bs r).2)]) (S2 := _) rfl (numbered77 b bs (nextF bs r).2 hb hok1 x (nextF bs r).1) ?_
    rintro t125 S125 ⟨rfl, E125, rfl⟩
    refine AWL.tuck ?_
    refine AWL.storeBox (i := 2) rfl rfl rfl ag_23 rfl (E rfl rfl) (E rfl rfl) rfl rfl (Nat.le_of_ble_eq_true rfl) ?_
    refine AWL.nil ?_
    refine AW.ret (retI (.cellA (i := 2) rfl ag_23 rfl rfl rfl .nil) ?_)
    rw [prefR, if_neg (ne_true_of_eq_false h0f), prefIn, if_neg h1f, if_neg h2f, if_neg h3f, if_neg h4f, if_neg h5f, if_neg h6f, if_neg h7f, if_pos h11]
    exact ⟨rfl, _, rfl⟩
   try replace h11f := of_decide_eq_false h11f
   have h11 := h11f
   simp only [Bool.or_eq_false_iff, decide_eq_false_iff_not] at h11
   have h11n : ¬ ((nextF bs r).1 = 129 ∨ (nextF bs r).1 = 247 ∨ (nextF bs r).1 = 211 ∨ (nextF bs r).1 = 193) := by omega
   refine AW.skip ?_
   refine AW.seq ?_
   refine AW.rseq ?_
   refine AWL.buildSlice1 rfl rfl (B rfl) rfl el_43 rfl (evsC (E rfl rfl) (evsC (E rfl rfl) (evsC (E rfl rfl) (evsC (E rfl rfl) (evsC (E rfl rfl) (evsC (E rfl rfl) (evsC (E rfl rfl) (evsC (E rfl rfl) (evsC (E rfl rfl) evs0))))))))) (Nat.le_of_ble_eq_true rfl) rfl rfl ?_
   refine AWL.y rfl rfl (B rfl) (Yv.lenSl rfl so_43 (B rfl) (E rfl rfl) (show _ = 9 * 1 from rfl)) ?_
   refine AWL.y rfl rfl (B rfl) (Yv.move rfl (E rfl rfl)) ?_
   refine AWL.nil ?_
   refine AW.block ?_
   refine AW.loop (fun (j : Nat) => [(0, true, .v (.pointer (some ⟨b, 0, none⟩))), (3, true, .v (.pointer (some ⟨b3, 0, none⟩))), (4, true, .v (.pointer (some ⟨b4, 0, none⟩))), (5, true, .v (.int .i64 (nextF bs r).1)), (126, true, .sl 1 (ints kindsP)), (127, true, .v (.int .i64 9)), (128, true, .v (.int .i64 (j : Int)))]) (fun (j : Nat) => [Ent.box b 68 (rdCells bs (nextF bs r).2), .box b3 87 (rxCells x), .box b4 23 (insCells nilI)]) (fun (j : Nat) => j ≤ 9 ∧ ∀ i, i < j → ¬ (opF (kindsP.getD i 0)).1 = (nextF bs r).1) (fun (j : Nat) => 9 - j) 0 ?_ ?_ ?_ ?_
   · exact ⟨Nat.zero_le _, fun i hi => by omega⟩
   · exact (Sub.cons rfl rfl (Sub.cons rfl rfl (Sub.cons rfl rfl (Sub.cons rfl rfl (Sub.cons rfl rfl (Sub.cons rfl rfl (Sub.cons rfl rfl Sub.nil)))))))
   · rfl
   ·
    intro j hinv
    obtain ⟨hj, hpre⟩ := hinv
    refine AW.rseq ?_
    refine AWL.y rfl rfl (B rfl) (Yv.lss rfl (E rfl rfl) (E rfl rfl)) ?_
    refine AWL.nil ?_
    refine AW.seq ?_
    refine AW.cond rfl (fun h12t => ?_) (fun h12f => ?_)
    ·
     try replace h12t := of_decide_eq_true h12t
     refine AW.skip ?_
     refine AW.seq ?_
     refine AW.block ?_
     refine AW.rseq ?_
     refine AWL.y rfl rfl (B rfl) (Yv.indexSl (j := j) rfl ss_43 (B rfl) (E rfl rfl) (E rfl rfl) (fun hg => ⟨rfl, by show j * 1 < 9; omega⟩)) ?_
     refine AWL.y rfl rfl (B rfl) (Yv.loadRp rfl ag_3 (E rfl rfl) (fun hg => ints_get (by show j < 9; omega))) ?_
     refine AWL.y rfl rfl (B rfl) (Yv.assign rfl (E rfl rfl)) ?_
     refine AWL.nil ?_
     refine AW.rseq ?_
     refine AWL.y rfl rfl (B rfl) (Yv.move rfl (E rfl rfl)) ?_
     refine AWL.callT rfl rfl (B rfl) rfl ce_26 (E rfl rfl) (evsC (E rfl rfl) evs0) (opcode33 (kindsP.getD j 0)) ?_
     rintro t134 S134 rfl
     refine AWL.y rfl rfl (B rfl) (Yv.move rfl (E rfl rfl)) ?_
     refine AWL.y rfl rfl (B rfl) (Yv.extract rfl (E rfl rfl) rfl) ?_
     refine AWL.y rfl rfl (B rfl) (Yv.extract rfl (E rfl rfl) rfl) ?_
     refine AWL.y rfl rfl (B rfl) (Yv.assign rfl (E rfl rfl)) ?_
     refine AWL.y rfl rfl (B rfl) (Yv.assign rfl (E rfl rfl)) ?_
     refine AWL.nil ?_
     refine AW.rseq ?_
     refine AWL.y rfl rfl (B rfl) (Yv.move rfl (E rfl rfl)) ?_
     refine AWL.y rfl rfl (B rfl) (Yv.move rfl (E rfl rfl)) ?_
     refine AWL.y rfl rfl (B rfl) (Yv.eql rfl (E rfl rfl) (E rfl rfl)) ?_
     refine AWL.nil ?_
     refine AW.cond rfl (fun h13t => ?_) (fun h13f => ?_)
     ·
      try replace h13t := of_decide_eq_true h13t
      refine AW.rseq ?_
      refine AWL.y rfl rfl (B rfl) (Yv.move rfl (E rfl rfl)) ?_
      refine AWL.y rfl rfl (B rfl) (Yv.loadBoxA rfl ag_87 (i := 1) rfl (E rfl rfl) rfl rfl) ?_
      refine AWL.call rfl rfl (B rfl) rfl ce_78 (E rfl rfl) (evsC (E rfl rfl) (evsC (E rfl rfl) evs0)) (S1 := [Ent.box b 68 (rdCells bs (nextF bs r).2)]) (S2 := _) rfl (two78 b bs (nextF bs r).2 hb hok1 x) ?_
      rintro t143 S143 ⟨rfl, E143, rfl⟩
      refine AWL.tuck ?_
      refine AWL.y rfl rfl (B rfl) (Yv.move rfl (E rfl rfl)) ?_
      refine AWL.y rfl rfl (B rfl) (Yv.extract rfl (E rfl rfl) rfl) ?_
      refine AWL.y rfl rfl (B rfl) (Yv.extract rfl (E rfl rfl) rfl) ?_
      refine AWL.y rfl rfl (B rfl) (Yv.assign rfl (E rfl rfl)) ?_
      refine AWL.y rfl rfl (B rfl) (Yv.assign rfl (E rfl rfl)) ?_
      refine AWL.nil ?_
      refine AW.rseq ?_
      refine AWL.y rfl rfl (B rfl) (Yv.move rfl (E rfl rfl)) ?_
      refine AWL.y rfl rfl (B rfl) (Yv.move rfl (E rfl rfl)) ?_
      refine AWL.y rfl rfl (B rfl) (Yv.move rfl (E rfl rfl)) ?_
      refine AWL.y rfl rfl (B rfl) (Yv.buildS rfl sh_23 (evpC (E rfl rfl) (evpC (E rfl rfl) (evpC (E rfl rfl) evp0))) (fun _ => rfl)) ?_
      refine AWL.storeBox (i := 2) rfl rfl rfl ag_23 rfl (E rfl rfl) (E rfl rfl) rfl rfl (Nat.le_of_ble_eq_true rfl) ?_
      refine AWL.nil ?_
      refine AW.ret (retI (.cellA (i := 2) rfl ag_23 rfl rfl rfl .nil) ?_)
      rw [prefR, if_neg (ne_true_of_eq_false h0f), prefIn, if_neg h1f, if_neg h2f, if_neg h3f, if_neg h4f, if_neg h5f, if_neg h6f, if_neg h7f, if_neg h11n, kindP_at (show j < 9 by omega) hpre h13t]
      exact ⟨rfl, _, rfl⟩
     try replace h13f := of_decide_eq_false h13f
     refine AW.skip ?_
     refine AW.region ?_
     refine AWL.y rfl rfl (B rfl) (Yv.addN_i64 rfl (E rfl rfl) (E rfl rfl) (fun hg => by omega)) ?_
     refine AWL.y rfl rfl (B rfl) (Yv.move rfl (E rfl rfl)) ?_
     refine AWL.nil ?_
     refine ⟨j + 1, ⟨by omega, fun i hi => ?_⟩, by omega, Sub.cons rfl rfl (Sub.cons rfl rfl (Sub.cons rfl rfl (Sub.cons rfl rfl (Sub.cons rfl rfl (Sub.cons rfl rfl (Sub.cons rfl (by simp) Sub.nil)))))), rfl⟩
     rcases Nat.lt_or_ge i j with h | h
     · exact hpre i h
     · rw [show i = j by omega]; exact h13f
    try replace h12f := of_decide_eq_false h12f
    refine AW.exit ?_
    refine AW.rseq ?_
    refine AWL.y rfl rfl (B rfl) (Yv.move rfl (E rfl rfl)) ?_
    refine AWL.call rfl rfl (B rfl) rfl ce_59 (E rfl rfl) (evsC (E rfl rfl) (evsC (E rfl rfl) evs0)) (S1 := [Ent.box b 68 (rdCells bs (nextF bs r).2)]) (S2 := _) rfl (must64 b bs (nextF bs r).2 false) ?_
    rintro t152 S152 rfl
    refine AWL.nil ?_
    refine AW.rseq ?_
    refine AWL.y rfl rfl (B rfl) (Yv.buildS rfl sh_23 evp0 (fun _ => rfl)) ?_
    refine AWL.storeBox (i := 2) rfl rfl rfl ag_23 rfl (E rfl rfl) (E rfl rfl) rfl rfl (Nat.le_of_ble_eq_true rfl) ?_
    refine AWL.nil ?_
    refine AW.ret (retI (.cellA (i := 2) rfl ag_23 rfl rfl rfl .nil) ?_)
    rw [prefR, if_neg (ne_true_of_eq_false h0f), prefIn, if_neg h1f, if_neg h2f, if_neg h3f, if_neg h4f, if_neg h5f, if_neg h6f, if_neg h7f, if_neg h11n, kindP_none (fun i hi => hpre i (by omega))]
    exact ⟨rfl, _, rfl⟩

set_option maxHeartbeats 4000000 in
theorem instruction54 (b : Nat) (bs : List UInt8) (r : Rd) (hb : bs.length ≤ 1099511627776) (hr : RdOk bs r) :
    ACalls Tryd.prog 44 [.v (.pointer (some ⟨b, 0, none⟩))] [Ent.box b 68 (rdCells bs r)] (fun t_ S => t_ = insT (insR bs r).1 ∧ ∃ E, S = Ent.box b 68 (rdCells bs (insR bs r).2) :: E) := by
  obtain ⟨hx0, hx1⟩ := next_range bs r
  have hok1 := next_ok hr
  obtain ⟨hy0, hy1⟩ := next_range bs (nextF bs r).2
  have hok2 := next_ok hok1
  refine ACalls.intro Tryd.func44 rfl Tryd.ntmps44 (Nat.le_of_ble_eq_true rfl) rfl fun X w0 => ?_
  refine AW.rseq ?_
  refine AWL.allocOp rfl rfl (B rfl) rfl zc_23 (fun b2 => ?_)
  refine AWL.nil ?_
  refine AW.rseq ?_
  refine AWL.y rfl rfl (B rfl) (Yv.move rfl (E rfl rfl)) ?_
  refine AWL.call rfl rfl (B rfl) rfl ce_58 (E rfl rfl) (evsC (E rfl rfl) evs0) (S1 := [Ent.box b 68 (rdCells bs r)]) (S2 := _) rfl (next63 b bs r hb hr) ?_
  rintro t6 S6 ⟨rfl, rfl⟩
  refine AWL.y rfl rfl (B rfl) (Yv.assign rfl (E rfl rfl)) ?_
  refine AWL.nil ?_
  refine AW.seq ?_
  refine AW.block ?_
  refine AW.rseq ?_
  refine AWL.y rfl rfl (B rfl) (Yv.move rfl (E rfl rfl)) ?_
  refine AWL.y rfl rfl (B rfl) (Yv.nilChk rfl (E rfl rfl)) ?_
  refine AWL.y rfl rfl (B rfl) (Yv.fieldBox rfl fo_68_2 (E rfl rfl)) ?_
  refine AWL.y rfl rfl (B rfl) (Yv.loadBox rfl ag_4 (i := 0) rfl (E rfl rfl) rfl) ?_
  refine AWL.y rfl rfl (B rfl) (Yv.assign rfl (E rfl rfl)) ?_
  refine AWL.nil ?_
  refine AW.cond rfl (fun h0t => ?_) (fun h0f => ?_)
  ·
   try replace h0t := of_decide_eq_true h0t
   refine AW.rseq ?_
   refine AWL.y rfl rfl (B rfl) (Yv.buildS rfl sh_23 evp0 (fun _ => rfl)) ?_
   refine AWL.storeBox (i := 1) rfl rfl rfl ag_23 rfl (E rfl rfl) (E rfl rfl) rfl rfl (Nat.le_of_ble_eq_true rfl) ?_
   refine AWL.nil ?_
   refine AW.ret (retI (.cellA (i := 1) rfl ag_23 rfl rfl rfl .nil) ?_)
   rw [insR, if_pos h0t]
   exact ⟨rfl, _, rfl⟩
  try replace h0f := of_decide_eq_false h0f
  refine AW.rseq ?_
  refine AWL.y rfl rfl (B rfl) (Yv.move rfl (E rfl rfl)) ?_
  refine AWL.y rfl rfl (B rfl) (Yv.bits rfl rfl (E rfl rfl) (E rfl rfl)) ?_
  refine AWL.y rfl rfl (B rfl) (Yv.eql rfl (E rfl rfl) (E rfl rfl)) ?_
  refine AWL.y rfl rfl (B rfl) (Yv.assign rfl (E rfl rfl)) ?_
  refine AWL.nil ?_
  refine AW.cond rfl (fun h1t => ?_) (fun h1f => ?_)
  ·
   try replace h1t := of_decide_eq_true h1t
   refine AW.rseq ?_
   refine AWL.y rfl rfl (B rfl) (Yv.move rfl (E rfl rfl)) ?_
   refine AWL.y rfl rfl (B rfl) (Yv.move rfl (E rfl rfl)) ?_
   refine AWL.y rfl rfl (B rfl) (Yv.bits rfl rfl (E rfl rfl) (E rfl rfl)) ?_
   refine AWL.y rfl rfl (B rfl) (Yv.eql rfl (E rfl rfl) (E rfl rfl)) ?_
   refine AWL.call rfl rfl (B rfl) rfl ce_59 (E rfl rfl) (evsC (E rfl rfl) (evsC (E rfl rfl) evs0)) (S1 := [Ent.box b 68 (rdCells bs (nextF bs r).2)]) (S2 := _) rfl (must64 b bs (nextF bs r).2 (decide (andI (nextF bs r).1 2 = 0))) ?_
   rintro t21 S21 rfl
   refine AWL.nil ?_
   refine AW.rseq ?_
   refine AWL.y rfl rfl (B rfl) (Yv.move rfl (E rfl rfl)) ?_
   refine AWL.y rfl rfl (B rfl) (Yv.move rfl (E rfl rfl)) ?_
   refine AWL.callT rfl rfl (B rfl) rfl ce_61 (E rfl rfl) (evsC (E rfl rfl) evs0) (split66 (nextF bs r).1 hx0 hx1) ?_
   rintro t24 S24 rfl
   refine AWL.call rfl rfl (B rfl) rfl ce_60 (E rfl rfl) (evsC (E rfl rfl) (evsC (E rfl rfl) evs0)) (S1 := [Ent.box b 68 (rdCells bs (mustF (nextF bs r).2 (decide (andI (nextF bs r).1 2 = 0))))]) (S2 := _) rfl (prefixed65 b bs (mustF (nextF bs r).2 (decide (andI (nextF bs r).1 2 = 0))) hb (must_ok hok1 _) (splitF (nextF bs r).1)) ?_
   rintro t25 S25 ⟨rfl, E25, rfl⟩
   refine AWL.tuck ?_
   refine AWL.storeBox (i := 1) rfl rfl rfl ag_23 rfl (E rfl rfl) (E rfl rfl) rfl rfl (Nat.le_of_ble_eq_true rfl) ?_
   refine AWL.nil ?_
   refine AW.ret (retI (.cellA (i := 1) rfl ag_23 rfl rfl rfl .nil) ?_)
   rw [insR, if_neg (ne_true_of_eq_false h0f), insIn, if_pos h1t]
   exact ⟨rfl, _, rfl⟩
  try replace h1f := of_decide_eq_false h1f
  refine AW.rseq ?_
  refine AWL.y rfl rfl (B rfl) (Yv.move rfl (E rfl rfl)) ?_
  refine AWL.y rfl rfl (B rfl) (Yv.eql rfl (E rfl rfl) (E rfl rfl)) ?_
  refine AWL.y rfl rfl (B rfl) (Yv.move rfl (E rfl rfl)) ?_
  refine AWL.ygF rfl rfl rfl rfl (B rfl) (Yv.move rfl (E rfl rfl)) ?_
  refine AWL.ygF rfl rfl rfl rfl (B rfl) (Yv.eql rfl (Eg rfl rfl id) (E rfl rfl)) ?_
  refine AWL.y rfl rfl (B rfl) (Yv.pickOr (t := .const (.bool true)) rfl (E rfl rfl) (Eg rfl rfl id)) ?_
  refine AWL.y rfl rfl (B rfl) (Yv.assign rfl (E rfl rfl)) ?_
  refine AWL.nil ?_
  refine AW.cond rfl (fun h2t => ?_) (fun h2f => ?_)
  ·
   try replace h2t := of_decide_eq_true h2t
   refine AW.rseq ?_
   refine AWL.y rfl rfl (B rfl) (Yv.move rfl (E rfl rfl)) ?_
   refine AWL.y rfl rfl (B rfl) (Yv.move rfl (E rfl rfl)) ?_
   refine AWL.call rfl rfl (B rfl) rfl ce_62 (E rfl rfl) (evsC (E rfl rfl) (evsC (E rfl rfl) evs0)) (S1 := [Ent.box b 68 (rdCells bs (nextF bs r).2)]) (S2 := _) rfl (real67 b bs (nextF bs r).2 hb hok1 (nextF bs r).1) ?_
   rintro t35 S35 ⟨rfl, E35, rfl⟩
   refine AWL.tuck ?_
   refine AWL.storeBox (i := 1) rfl rfl rfl ag_23 rfl (E rfl rfl) (E rfl rfl) rfl rfl (Nat.le_of_ble_eq_true rfl) ?_
   refine AWL.nil ?_
   refine AW.ret (retI (.cellA (i := 1) rfl ag_23 rfl rfl rfl .nil) ?_)
   rw [insR, if_neg (ne_true_of_eq_false h0f), insIn, if_neg h1f, if_pos h2t]
   exact ⟨rfl, _, rfl⟩
  try replace h2f := of_decide_eq_false h2f
  refine AW.rseq ?_
  refine AWL.y rfl rfl (B rfl) (Yv.move rfl (E rfl rfl)) ?_
  refine AWL.y rfl rfl (B rfl) (Yv.bits rfl rfl (E rfl rfl) (E rfl rfl)) ?_
  refine AWL.y rfl rfl (B rfl) (Yv.eql rfl (E rfl rfl) (E rfl rfl)) ?_
  refine AWL.y rfl rfl (B rfl) (Yv.assign rfl (E rfl rfl)) ?_
  refine AWL.nil ?_
  refine AW.cond rfl (fun h3t => ?_) (fun h3f => ?_)
  ·
   try replace h3t := of_decide_eq_true h3t
   refine AW.rseq ?_
   refine AWL.y rfl rfl (B rfl) (Yv.move rfl (E rfl rfl)) ?_
   refine AWL.y rfl rfl (B rfl) (Yv.andN_i64 4 16 (by decide) (by decide) (by decide) rfl (E rfl rfl) (E rfl rfl) (fun hg => ⟨by omega, by omega⟩)) ?_
   refine AWL.y rfl rfl (B rfl) (Yv.move rfl (E rfl rfl)) ?_
   refine AWL.call rfl rfl (B rfl) rfl ce_63 (E rfl rfl) (evsC (E rfl rfl) (evsC (E rfl rfl) evs0)) (S1 := [Ent.box b 68 (rdCells bs (nextF bs r).2)]) (S2 := _) rfl (imm68 b bs (nextF bs r).2 hb hok1 1 (.inl rfl)) ?_
   rintro t43 S43 ⟨rfl, rfl⟩
   refine AWL.y rfl rfl (B rfl) (Yv.buildS rfl sh_23 (evpC (E rfl rfl) (evpC (E rfl rfl) (evpC (E rfl rfl) (evpC (E rfl rfl) evp0)))) (fun _ => rfl)) ?_
   refine AWL.storeBox (i := 1) rfl rfl rfl ag_23 rfl (E rfl rfl) (E rfl rfl) rfl rfl (Nat.le_of_ble_eq_true rfl) ?_
   refine AWL.nil ?_
   refine AW.ret (retI (.cellA (i := 1) rfl ag_23 rfl rfl rfl .nil) ?_)
   rw [insR, if_neg (ne_true_of_eq_false h0f), insIn, if_neg h1f, if_neg (ne_true_of_eq_false h2f), if_pos h3t]
   exact ⟨rfl, _, rfl⟩
  try replace h3f := of_decide_eq_false h3f
  refine AW.skip ?_
  refine AW.seq ?_
  refine AW.rseq ?_
  refine AWL.y rfl rfl (B rfl) (Yv.move rfl (E rfl rfl)) ?_
  refine AWL.nil ?_
  refine AW.block ?_
  refine AW.rseq ?_
  refine AWL.y rfl rfl (B rfl) (Yv.eql rfl (E rfl rfl) (E rfl rfl)) ?_
  refine AWL.y rfl rfl (B rfl) (Yv.assign rfl (E rfl rfl)) ?_
  refine AWL.nil ?_
  refine AW.cond rfl (fun h4t => ?_) (fun h4f => ?_)
  ·
   try replace h4t := of_decide_eq_true h4t
   refine AW.rseq ?_
   refine AWL.y rfl rfl (B rfl) (Yv.move rfl (E rfl rfl)) ?_
   refine AWL.call rfl rfl (B rfl) rfl ce_63 (E rfl rfl) (evsC (E rfl rfl) (evsC (E rfl rfl) evs0)) (S1 := [Ent.box b 68 (rdCells bs (nextF bs r).2)]) (S2 := _) rfl (imm68 b bs (nextF bs r).2 hb hok1 1 (.inl rfl)) ?_
   rintro t49 S49 ⟨rfl, rfl⟩
   refine AWL.y rfl rfl (B rfl) (Yv.buildS rfl sh_23 (evpC (E rfl rfl) (evpC (E rfl rfl) (evpC (E rfl rfl) evp0))) (fun _ => rfl)) ?_
   refine AWL.storeBox (i := 1) rfl rfl rfl ag_23 rfl (E rfl rfl) (E rfl rfl) rfl rfl (Nat.le_of_ble_eq_true rfl) ?_
   refine AWL.nil ?_
   refine AW.ret (retI (.cellA (i := 1) rfl ag_23 rfl rfl rfl .nil) ?_)
   rw [insR, if_neg (ne_true_of_eq_false h0f), insIn, if_neg h1f, if_neg (ne_true_of_eq_false h2f), if_neg h3f, if_pos h4t]
   exact ⟨rfl, _, rfl⟩
  try replace h4f := of_decide_eq_false h4f
  refine AW.rseq ?_
  refine AWL.y rfl rfl (B rfl) (Yv.eql rfl (E rfl rfl) (E rfl rfl)) ?_
  refine AWL.y rfl rfl (B rfl) (Yv.assign rfl (E rfl rfl)) ?_
  refine AWL.nil ?_
  refine AW.cond rfl (fun h5t => ?_) (fun h5f => ?_)
  ·
   try replace h5t := of_decide_eq_true h5t
   refine AW.rseq ?_
   refine AWL.y rfl rfl (B rfl) (Yv.move rfl (E rfl rfl)) ?_
   refine AWL.call rfl rfl (B rfl) rfl ce_63 (E rfl rfl) (evsC (E rfl rfl) (evsC (E rfl rfl) evs0)) (S1 := [Ent.box b 68 (rdCells bs (nextF bs r).2)]) (S2 := _) rfl (imm68 b bs (nextF bs r).2 hb hok1 4 (.inr (.inl rfl))) ?_
   rintro t54 S54 ⟨rfl, rfl⟩
   refine AWL.y rfl rfl (B rfl) (Yv.buildS rfl sh_23 (evpC (E rfl rfl) (evpC (E rfl rfl) (evpC (E rfl rfl) evp0))) (fun _ => rfl)) ?_
   refine AWL.storeBox (i := 1) rfl rfl rfl ag_23 rfl (E rfl rfl) (E rfl rfl) rfl rfl (Nat.le_of_ble_eq_true rfl) ?_
   refine AWL.nil ?_
   refine AW.ret (retI (.cellA (i := 1) rfl ag_23 rfl rfl rfl .nil) ?_)
   rw [insR, if_neg (ne_true_of_eq_false h0f), insIn, if_neg h1f, if_neg (ne_true_of_eq_false h2f), if_neg h3f, if_neg h4f, if_pos h5t]
   exact ⟨rfl, _, rfl⟩
  try replace h5f := of_decide_eq_false h5f
  refine AW.rseq ?_
  refine AWL.y rfl rfl (B rfl) (Yv.eql rfl (E rfl rfl) (E rfl rfl)) ?_
  refine AWL.y rfl rfl (B rfl) (Yv.assign rfl (E rfl rfl)) ?_
  refine AWL.nil ?_
  refine AW.cond rfl (fun h6t => ?_) (fun h6f => ?_)
  ·
   try replace h6t := of_decide_eq_true h6t
   refine AW.rseq ?_
   refine AWL.y rfl rfl (B rfl) (Yv.move rfl (E rfl rfl)) ?_
   refine AWL.call rfl rfl (B rfl) rfl ce_63 (E rfl rfl) (evsC (E rfl rfl) (evsC (E rfl rfl) evs0)) (S1 := [Ent.box b 68 (rdCells bs (nextF bs r).2)]) (S2 := _) rfl (imm68 b bs (nextF bs r).2 hb hok1 4 (.inr (.inl rfl))) ?_
   rintro t59 S59 ⟨rfl, rfl⟩
   refine AWL.y rfl rfl (B rfl) (Yv.buildS rfl sh_23 (evpC (E rfl rfl) (evpC (E rfl rfl) evp0)) (fun _ => rfl)) ?_
   refine AWL.storeBox (i := 1) rfl rfl rfl ag_23 rfl (E rfl rfl) (E rfl rfl) rfl rfl (Nat.le_of_ble_eq_true rfl) ?_
   refine AWL.nil ?_
   refine AW.ret (retI (.cellA (i := 1) rfl ag_23 rfl rfl rfl .nil) ?_)
   rw [insR, if_neg (ne_true_of_eq_false h0f), insIn, if_neg h1f, if_neg (ne_true_of_eq_false h2f), if_neg h3f, if_neg h4f, if_neg h5f, if_pos h6t]
   exact ⟨rfl, _, rfl⟩
  try replace h6f := of_decide_eq_false h6f
  refine AW.rseq ?_
  refine AWL.y rfl rfl (B rfl) (Yv.eql rfl (E rfl rfl) (E rfl rfl)) ?_
  refine AWL.y rfl rfl (B rfl) (Yv.assign rfl (E rfl rfl)) ?_
  refine AWL.nil ?_
  refine AW.cond rfl (fun h7t => ?_) (fun h7f => ?_)
  ·
   try replace h7t := of_decide_eq_true h7t
   refine AW.rseq ?_
   refine AWL.y rfl rfl (B rfl) (Yv.buildS rfl sh_23 (evpC (E rfl rfl) evp0) (fun _ => rfl)) ?_
   refine AWL.storeBox (i := 1) rfl rfl rfl ag_23 rfl (E rfl rfl) (E rfl rfl) rfl rfl (Nat.le_of_ble_eq_true rfl) ?_
   refine AWL.nil ?_
   refine AW.ret (retI (.cellA (i := 1) rfl ag_23 rfl rfl rfl .nil) ?_)
   rw [insR, if_neg (ne_true_of_eq_false h0f), insIn, if_neg h1f, if_neg (ne_true_of_eq_false h2f), if_neg h3f, if_neg h4f, if_neg h5f, if_neg h6f, if_pos h7t]
   exact ⟨rfl, _, rfl⟩
  try replace h7f := of_decide_eq_false h7f
  refine AW.rseq ?_
  refine AWL.y rfl rfl (B rfl) (Yv.eql rfl (E rfl rfl) (E rfl rfl)) ?_
  refine AWL.y rfl rfl (B rfl) (Yv.assign rfl (E rfl rfl)) ?_
  refine AWL.nil ?_
  refine AW.cond rfl (fun h8t => ?_) (fun h8f => ?_)
  ·
   try replace h8t := of_decide_eq_true h8t
   refine AW.rseq ?_
   refine AWL.y rfl rfl (B rfl) (Yv.move rfl (E rfl rfl)) ?_
   refine AWL.call rfl rfl (B rfl) rfl ce_58 (E rfl rfl) (evsC (E rfl rfl) evs0) (S1 := [Ent.box b 68 (rdCells bs (nextF bs r).2)]) (S2 := _) rfl (next63 b bs (nextF bs r).2 hb hok1) ?_
   rintro t67 S67 ⟨rfl, rfl⟩
   refine AWL.y rfl rfl (B rfl) (Yv.assign rfl (E rfl rfl)) ?_
   refine AWL.nil ?_
   refine AW.block ?_
   refine AW.rseq ?_
   refine AWL.y rfl rfl (B rfl) (Yv.move rfl (E rfl rfl)) ?_
   refine AWL.y rfl rfl (B rfl) (Yv.eql rfl (E rfl rfl) (E rfl rfl)) ?_
   refine AWL.y rfl rfl (B rfl) (Yv.assign rfl (E rfl rfl)) ?_
   refine AWL.nil ?_
   refine AW.cond rfl (fun h9t => ?_) (fun h9f => ?_)
   ·
    try replace h9t := of_decide_eq_true h9t
    refine AW.rseq ?_
    refine AWL.y rfl rfl (B rfl) (Yv.buildS rfl sh_23 (evpC (E rfl rfl) evp0) (fun _ => rfl)) ?_
    refine AWL.storeBox (i := 1) rfl rfl rfl ag_23 rfl (E rfl rfl) (E rfl rfl) rfl rfl (Nat.le_of_ble_eq_true rfl) ?_
    refine AWL.nil ?_
    refine AW.ret (retI (.cellA (i := 1) rfl ag_23 rfl rfl rfl .nil) ?_)
    rw [insR, if_neg (ne_true_of_eq_false h0f), insIn, if_neg h1f, if_neg (ne_true_of_eq_false h2f), if_neg h3f, if_neg h4f, if_neg h5f, if_neg h6f, if_neg h7f, if_pos h8t, insTwo, if_pos h9t]
    exact ⟨rfl, _, rfl⟩
   try replace h9f := of_decide_eq_false h9f
   refine AW.rseq ?_
   refine AWL.y rfl rfl (B rfl) (Yv.move rfl (E rfl rfl)) ?_
   refine AWL.y rfl rfl (B rfl) (Yv.eql rfl (E rfl rfl) (E rfl rfl)) ?_
   refine AWL.y rfl rfl (B rfl) (Yv.assign rfl (E rfl rfl)) ?_
   refine AWL.nil ?_
   refine AW.cond rfl (fun h10t => ?_) (fun h10f => ?_)
   ·
    try replace h10t := of_decide_eq_true h10t
    refine AW.rseq ?_
    refine AWL.y rfl rfl (B rfl) (Yv.buildS rfl sh_23 (evpC (E rfl rfl) evp0) (fun _ => rfl)) ?_
    refine AWL.storeBox (i := 1) rfl rfl rfl ag_23 rfl (E rfl rfl) (E rfl rfl) rfl rfl (Nat.le_of_ble_eq_true rfl) ?_
    refine AWL.nil ?_
    refine AW.ret (retI (.cellA (i := 1) rfl ag_23 rfl rfl rfl .nil) ?_)
    rw [insR, if_neg (ne_true_of_eq_false h0f), insIn, if_neg h1f, if_neg (ne_true_of_eq_false h2f), if_neg h3f, if_neg h4f, if_neg h5f, if_neg h6f, if_neg h7f, if_pos h8t, insTwo, if_neg h9f, if_pos h10t]
    exact ⟨rfl, _, rfl⟩
   try replace h10f := of_decide_eq_false h10f
   refine AW.rseq ?_
   refine AWL.y rfl rfl (B rfl) (Yv.move rfl (E rfl rfl)) ?_
   refine AWL.y rfl rfl (B rfl) (Yv.bits rfl rfl (E rfl rfl) (E rfl rfl)) ?_
   refine AWL.y rfl rfl (B rfl) (Yv.eql rfl (E rfl rfl) (E rfl rfl)) ?_
   refine AWL.y rfl rfl (B rfl) (Yv.assign rfl (E rfl rfl)) ?_
   refine AWL.nil ?_
   refine AW.cond rfl (fun h11t => ?_) (fun h11f => ?_)
   ·
    try replace h11t := of_decide_eq_true h11t
    refine AW.rseq ?_
    refine AWL.y rfl rfl (B rfl) (Yv.move rfl (E rfl rfl)) ?_
    refine AWL.y rfl rfl (B rfl) (Yv.andN_i64 4 16 (by decide) (by decide) (by decide) rfl (E rfl rfl) (E rfl rfl) (fun hg => ⟨by omega, by omega⟩)) ?_
    refine AWL.y rfl rfl (B rfl) (Yv.move rfl (E rfl rfl)) ?_
    refine AWL.call rfl rfl (B rfl) rfl ce_63 (E rfl rfl) (evsC (E rfl rfl) (evsC (E rfl rfl) evs0)) (S1 := [Ent.box b 68 (rdCells bs (nextF bs (nextF bs r).2).2)]) (S2 := _) rfl (imm68 b bs (nextF bs (nextF bs r).2).2 hb hok2 4 (.inr (.inl rfl))) ?_
    rintro t83 S83 ⟨rfl, rfl⟩
    refine AWL.y rfl rfl (B rfl) (Yv.buildS rfl sh_23 (evpC (E rfl rfl) (evpC (E rfl rfl) (evpC (E rfl rfl) (evpC (E rfl rfl) evp0)))) (fun _ => rfl)) ?_
    refine AWL.storeBox (i := 1) rfl rfl rfl ag_23 rfl (E rfl rfl) (E rfl rfl) rfl rfl (Nat.le_of_ble_eq_true rfl) ?_
    refine AWL.nil ?_
    refine AW.ret (retI (.cellA (i := 1) rfl ag_23 rfl rfl rfl .nil) ?_)
    rw [insR, if_neg (ne_true_of_eq_false h0f), insIn, if_neg h1f, if_neg (ne_true_of_eq_false h2f), if_neg h3f, if_neg h4f, if_neg h5f, if_neg h6f, if_neg h7f, if_pos h8t, insTwo, if_neg h9f, if_neg h10f, if_pos h11t]
    exact ⟨rfl, _, rfl⟩
   try replace h11f := of_decide_eq_false h11f
   refine AW.skip ?_
   refine AW.rseq ?_
   refine AWL.y rfl rfl (B rfl) (Yv.move rfl (E rfl rfl)) ?_
   refine AWL.call rfl rfl (B rfl) rfl ce_59 (E rfl rfl) (evsC (E rfl rfl) (evsC (E rfl rfl) evs0)) (S1 := [Ent.box b 68 (rdCells bs (nextF bs (nextF bs r).2).2)]) (S2 := _) rfl (must64 b bs (nextF bs (nextF bs r).2).2 false) ?_
   rintro t86 S86 rfl
   refine AWL.nil ?_
   refine AW.rseq ?_
   refine AWL.y rfl rfl (B rfl) (Yv.buildS rfl sh_23 evp0 (fun _ => rfl)) ?_
   refine AWL.storeBox (i := 1) rfl rfl rfl ag_23 rfl (E rfl rfl) (E rfl rfl) rfl rfl (Nat.le_of_ble_eq_true rfl) ?_
   refine AWL.nil ?_
   refine AW.ret (retI (.cellA (i := 1) rfl ag_23 rfl rfl rfl .nil) ?_)
   rw [insR, if_neg (ne_true_of_eq_false h0f), insIn, if_neg h1f, if_neg (ne_true_of_eq_false h2f), if_neg h3f, if_neg h4f, if_neg h5f, if_neg h6f, if_neg h7f, if_pos h8t, insTwo, if_neg h9f, if_neg h10f, if_neg h11f]
   exact ⟨rfl, _, rfl⟩
  try replace h8f := of_decide_eq_false h8f
  refine AW.skip ?_
  refine AW.rseq ?_
  refine AWL.y rfl rfl (B rfl) (Yv.move rfl (E rfl rfl)) ?_
  refine AWL.call rfl rfl (B rfl) rfl ce_59 (E rfl rfl) (evsC (E rfl rfl) (evsC (E rfl rfl) evs0)) (S1 := [Ent.box b 68 (rdCells bs (nextF bs r).2)]) (S2 := _) rfl (must64 b bs (nextF bs r).2 false) ?_
  rintro t86 S86 rfl
  refine AWL.nil ?_
  refine AW.rseq ?_
  refine AWL.y rfl rfl (B rfl) (Yv.buildS rfl sh_23 evp0 (fun _ => rfl)) ?_
  refine AWL.storeBox (i := 1) rfl rfl rfl ag_23 rfl (E rfl rfl) (E rfl rfl) rfl rfl (Nat.le_of_ble_eq_true rfl) ?_
  refine AWL.nil ?_
  refine AW.ret (retI (.cellA (i := 1) rfl ag_23 rfl rfl rfl .nil) ?_)
  rw [insR, if_neg (ne_true_of_eq_false h0f), insIn, if_neg h1f, if_neg (ne_true_of_eq_false h2f), if_neg h3f, if_neg h4f, if_neg h5f, if_neg h6f, if_neg h7f, if_neg h8f]
  exact ⟨rfl, _, rfl⟩

set_option maxHeartbeats 2000000 in
theorem Decode42 (bs : List UInt8) (hb : bs.length ≤ 1099511627776) :
    ACalls Tryd.prog 17 [u8s bs] [] (fun t_ S => t_ = .tup [insT (decI bs), .v (.int .i64 (decN bs : Int)), .v (.int .i64 (decE bs))]) := by
  refine ACalls.intro Tryd.func17 rfl Tryd.ntmps17 (Nat.le_of_ble_eq_true rfl) rfl fun X w0 => ?_
  refine AW.rseq ?_
  refine AWL.allocOp rfl rfl (B rfl) rfl zc_23 (fun b2 => ?_)
  refine AWL.y rfl rfl (B rfl) (Yv.assign rfl (E rfl rfl)) ?_
  refine AWL.y rfl rfl (B rfl) (Yv.assign rfl (E rfl rfl)) ?_
  refine AWL.nil ?_
  refine AW.rseq ?_
  refine AWL.y rfl rfl (B rfl) (Yv.move rfl (E rfl rfl)) ?_
  refine AWL.y rfl rfl (B rfl) (Yv.buildS rfl sh_68 (evpC (E rfl rfl) evp0) (fun _ => rfl)) ?_
  refine AWL.boxOp rfl rfl (B rfl) rfl (E rfl rfl) rfl (fun b9 => ?_)
  refine AWL.y rfl rfl (B rfl) (Yv.assign rfl (E rfl rfl)) ?_
  refine AWL.nil ?_
  refine AW.perm (S' := [.box b9 68 (rdCells bs rd0), .box b2 23 (insCells nilI)]) (List.Perm.swap _ _ []) ?_
  refine AW.rseq ?_
  refine AWL.y rfl rfl (B rfl) (Yv.move rfl (E rfl rfl)) ?_
  refine AWL.call rfl rfl (B rfl) rfl ce_44 (E rfl rfl) (evsC (E rfl rfl) evs0) (S1 := [Ent.box b9 68 (rdCells bs rd0)]) (S2 := _) rfl (instruction54 b9 bs rd0 hb (Nat.zero_le _)) ?_
  rintro t11 S11 ⟨rfl, E11, rfl⟩
  refine AWL.tuck ?_
  refine AWL.allocOp rfl rfl (B rfl) rfl zc_23 (fun b6 => ?_)
  refine AWL.perm (S' := [Ent.box b9 68 (rdCells bs (insR bs rd0).2), .box b2 23 (insCells nilI), .box b6 23 (insCells nilI)] ++ E11) (List.Perm.append_left [_, _] (List.perm_append_comm (l₁ := [_]) (l₂ := E11))) ?_
  refine AWL.storeBox (i := 2) rfl rfl rfl ag_23 rfl (E rfl rfl) (E rfl rfl) rfl rfl (Nat.le_of_ble_eq_true rfl) ?_
  refine AWL.nil ?_
  refine AW.seq ?_
  refine AW.block ?_
  refine AW.rseq ?_
  refine AWL.y rfl rfl (B rfl) (Yv.move rfl (E rfl rfl)) ?_
  refine AWL.y rfl rfl (B rfl) (Yv.nilChk rfl (E rfl rfl)) ?_
  refine AWL.y rfl rfl (B rfl) (Yv.fieldBox rfl fo_68_3 (E rfl rfl)) ?_
  refine AWL.y rfl rfl (B rfl) (Yv.loadBox rfl ag_4 (i := 0) rfl (E rfl rfl) rfl) ?_
  refine AWL.y rfl rfl (B rfl) (Yv.assign rfl (E rfl rfl)) ?_
  refine AWL.nil ?_
  refine AW.cond rfl (fun h0t => ?_) (fun h0f => ?_)
  ·
   try replace h0t := of_decide_eq_true h0t
   refine AW.rseq ?_
   refine AWL.y rfl rfl (B rfl) (Yv.buildS rfl sh_23 evp0 (fun _ => rfl)) ?_
   refine AWL.storeBox (i := 1) rfl rfl rfl ag_23 rfl (E rfl rfl) (E rfl rfl) rfl rfl (Nat.le_of_ble_eq_true rfl) ?_
   refine AWL.y rfl rfl (B rfl) (Yv.assign rfl (E rfl rfl)) ?_
   refine AWL.y rfl rfl (B rfl) (Yv.assign rfl (E rfl rfl)) ?_
   refine AWL.nil ?_
   refine AW.ret (retI (.cellA (i := 1) rfl ag_23 rfl rfl rfl (.tmp rfl (.tmp rfl .nil))) ?_)
   rw [decI, if_pos (.inl h0t), decN, if_pos (.inl h0t), decE, if_pos h0t]
   rfl
  try replace h0f := of_decide_eq_false h0f
  refine AW.rseq ?_
  refine AWL.y rfl rfl (B rfl) (Yv.move rfl (E rfl rfl)) ?_
  refine AWL.y rfl rfl (B rfl) (Yv.nilChk rfl (E rfl rfl)) ?_
  refine AWL.y rfl rfl (B rfl) (Yv.fieldBox rfl fo_68_2 (E rfl rfl)) ?_
  refine AWL.y rfl rfl (B rfl) (Yv.loadBox rfl ag_4 (i := 0) rfl (E rfl rfl) rfl) ?_
  refine AWL.y rfl rfl (B rfl) (Yv.assign rfl (E rfl rfl)) ?_
  refine AWL.nil ?_
  refine AW.cond rfl (fun h1t => ?_) (fun h1f => ?_)
  ·
   try replace h1t := of_decide_eq_true h1t
   refine AW.rseq ?_
   refine AWL.y rfl rfl (B rfl) (Yv.buildS rfl sh_23 evp0 (fun _ => rfl)) ?_
   refine AWL.storeBox (i := 1) rfl rfl rfl ag_23 rfl (E rfl rfl) (E rfl rfl) rfl rfl (Nat.le_of_ble_eq_true rfl) ?_
   refine AWL.y rfl rfl (B rfl) (Yv.assign rfl (E rfl rfl)) ?_
   refine AWL.y rfl rfl (B rfl) (Yv.assign rfl (E rfl rfl)) ?_
   refine AWL.nil ?_
   refine AW.ret (retI (.cellA (i := 1) rfl ag_23 rfl rfl rfl (.tmp rfl (.tmp rfl .nil))) ?_)
   rw [decI, if_pos (.inr h1t), decN, if_pos (.inr h1t), decE, if_neg (ne_true_of_eq_false h0f), if_pos h1t]
   rfl
  try replace h1f := of_decide_eq_false h1f
  refine AW.skip ?_
  refine AW.rseqH (HeldBox b6 (insVals (insR bs rd0).1)) rfl (tells_box (k := 2) rfl) ?_
  refine AWH.tk (i := 0) rfl rfl rfl (B rfl) (heldLoadA rfl ag_23 (E rfl rfl) rfl rfl rfl rfl) ?_
  refine AWH.tk (i := 1) rfl rfl rfl (B rfl) (heldAll (freeMove rfl (E rfl rfl))) ?_
  refine AWH.tk (i := 2) rfl rfl rfl (B rfl) (heldAll (freeNil rfl (E rfl rfl))) ?_
  refine AWH.tk (i := 3) rfl rfl rfl (B rfl) (heldAll (freeField rfl fo_68_1 (E rfl rfl))) ?_
  refine AWH.two (i := 4) (j := 5) (by kernel_rfl) rfl rfl ?_ ?_
  ·
   refine AWL.y rfl rfl (B rfl) (Yv.loadBox rfl ag_3 (i := 0) rfl (E rfl rfl) rfl) ?_
   refine tb 2 rfl ?_
   refine AWH.one (i := 5) (by kernel_rfl) rfl ?_
   refine AWL.storeBox (i := 1) rfl rfl rfl ag_23 rfl (E rfl rfl) (E rfl rfl) rfl rfl (Nat.le_of_ble_eq_true rfl) ?_
   refine tb 2 rfl ?_
   refine AWH.one (i := 6) (by kernel_rfl) rfl ?_
   refine AWL.y rfl rfl (B rfl) (Yv.assign rfl (E rfl rfl)) ?_
   refine tb 2 rfl ?_
   refine AWH.one (i := 7) (by kernel_rfl) rfl ?_
   refine AWL.y rfl rfl (B rfl) (Yv.assign rfl (E rfl rfl)) ?_
   refine tb 2 rfl ?_
   refine AWH.done (by kernel_rfl) ?_
   refine AW.ret (retI (.cellA (i := 1) rfl ag_23 rfl rfl rfl (.tmp rfl (.tmp rfl .nil))) ?_)
   have hno : ¬ ((insR bs rd0).2.wrong = true ∨ (insR bs rd0).2.cut = true) := by rw [h0f, h1f]; simp
   rw [decI, if_neg hno, decN, if_neg hno, decE, if_neg (ne_true_of_eq_false h0f), if_neg (ne_true_of_eq_false h1f)]
   rfl
  ·
   refine AWL.storeBox (i := 1) rfl rfl rfl ag_23 rfl (E rfl rfl) (E rfl rfl) rfl rfl (Nat.le_of_ble_eq_true rfl) ?_
   refine tb 2 rfl ?_
   refine AWH.one (i := 4) (by kernel_rfl) rfl ?_
   refine AWL.y rfl rfl (B rfl) (Yv.loadBox rfl ag_3 (i := 0) rfl (E rfl rfl) rfl) ?_
   refine tb 2 rfl ?_
   refine AWH.one (i := 6) (by kernel_rfl) rfl ?_
   refine AWL.y rfl rfl (B rfl) (Yv.assign rfl (E rfl rfl)) ?_
   refine tb 2 rfl ?_
   refine AWH.one (i := 7) (by kernel_rfl) rfl ?_
   refine AWL.y rfl rfl (B rfl) (Yv.assign rfl (E rfl rfl)) ?_
   refine tb 2 rfl ?_
   refine AWH.done (by kernel_rfl) ?_
   refine AW.ret (retI (.cellA (i := 1) rfl ag_23 rfl rfl rfl (.tmp rfl (.tmp rfl .nil))) ?_)
   have hno : ¬ ((insR bs rd0).2.wrong = true ∨ (insR bs rd0).2.cut = true) := by rw [h0f, h1f]; simp
   rw [decI, if_neg hno, decN, if_neg hno, decE, if_neg (ne_true_of_eq_false h0f), if_neg (ne_true_of_eq_false h1f)]
   rfl

end Go.Proofs.YtjndpakhmgapjaaDoor

namespace Go.Proofs.YtjndpakhmgapjaaDoor
open Go Go.RowKit
set_option linter.unusedSimpArgs false
set_option linter.unusedVariables false
set_option linter.unnecessarySimpa false
def wordsL : List (List UInt8) := [[109, 111, 118, 101], [99, 111, 110, 115, 116], [108, 111, 97, 100], [115, 116, 111, 114, 101], [108, 101, 97], [97, 100, 100], [111, 114], [97, 100, 99], [115, 98, 98], [97, 110, 100], [115, 117, 98], [120, 111, 114], [99, 109, 112], [116, 101, 115, 116], [97, 100, 100, 73], [111, 114, 73], [97, 110, 100, 73], [115, 117, 98, 73], [120, 111, 114, 73], [99, 109, 112, 73], [105, 109, 117, 108], [109, 117, 108], [100, 105, 118], [110, 101, 103], [110, 111, 116], [115, 104, 108], [115, 104, 114], [115, 97, 114], [115, 104, 108, 73], [115, 104, 114, 73], [115, 97, 114, 73], [115, 101, 116], [98, 121, 116, 101], [109, 111, 118, 101, 73, 102], [106, 117, 109, 112], [106, 117, 109, 112, 73, 102], [99, 97, 108, 108], [99, 97, 108, 108, 84, 111], [106, 117, 109, 112, 84, 111], [114, 101, 116], [112, 117, 115, 104], [112, 111, 112], [115, 121, 115], [116, 114, 97, 112], [116, 111, 88], [102, 114, 111, 109, 88], [97, 100, 100, 88], [109, 117, 108, 88], [115, 117, 98, 88], [100, 105, 118, 88], [99, 109, 112, 88], [105, 110, 116, 88]]
def digitsL : List UInt8 := [48, 49, 50, 51, 52, 53, 54, 55, 56, 57, 97, 98, 99, 100, 101, 102, 103, 104, 105, 106, 107, 108, 109, 110, 111, 112, 113, 114, 115, 116, 117, 118, 119, 120, 121, 122]
def pairsL : List UInt8 := [48, 48, 48, 49, 48, 50, 48, 51, 48, 52, 48, 53, 48, 54, 48, 55, 48, 56, 48, 57, 49, 48, 49, 49, 49, 50, 49, 51, 49, 52, 49, 53, 49, 54, 49, 55, 49, 56, 49, 57, 50, 48, 50, 49, 50, 50, 50, 51, 50, 52, 50, 53, 50, 54, 50, 55, 50, 56, 50, 57, 51, 48, 51, 49, 51, 50, 51, 51, 51, 52, 51, 53, 51, 54, 51, 55, 51, 56, 51, 57, 52, 48, 52, 49, 52, 50, 52, 51, 52, 52, 52, 53, 52, 54, 52, 55, 52, 56, 52, 57, 53, 48, 53, 49, 53, 50, 53, 51, 53, 52, 53, 53, 53, 54, 53, 55, 53, 56, 53, 57, 54, 48, 54, 49, 54, 50, 54, 51, 54, 52, 54, 53, 54, 54, 54, 55, 54, 56, 54, 57, 55, 48, 55, 49, 55, 50, 55, 51, 55, 52, 55, 53, 55, 54, 55, 55, 55, 56, 55, 57, 56, 48, 56, 49, 56, 50, 56, 51, 56, 52, 56, 53, 56, 54, 56, 55, 56, 56, 56, 57, 57, 48, 57, 49, 57, 50, 57, 51, 57, 52, 57, 53, 57, 54, 57, 55, 57, 56, 57, 57]
def smallT (n : Int) : List UInt8 := if n < 10 then (digitsL.drop n.toNat).take ((n + 1).toNat - n.toNat) else (pairsL.drop (n * 2).toNat).take ((n * 2 + 2).toNat - (n * 2).toNat)
def wordT (k : Int) : List UInt8 := wordsL.getD (k.toNat - 1) []
def putOn (f has : Int) : Bool := !decide (bitsOf .and .i64 f has = 0)
def putT (f has n : Int) (s : List UInt8) : List UInt8 := if putOn f has = true then s ++ (32 :: smallT n) else s
theorem word_get {j : Nat} (h : j < 52) : (wordsL.map sv)[j * 1]? = some (sv (wordsL.getD j [])) := by
  have : j < wordsL.length := h
  simp [this]
theorem small_len (n : Int) : (smallT n).length ≤ 200 := by
  unfold smallT
  split
  · rw [List.length_take, List.length_drop]
    have : digitsL.length = 36 := rfl
    omega
  · rw [List.length_take, List.length_drop]
    have : pairsL.length = 200 := rfl
    omega
def ik0 : Ins := ⟨41, 15, 0, 0, 0, 0⟩
def ik1 : Ins := ⟨3, 9, 3, 0, 1, -1⟩
theorem kv0 : validF ik0 = true := by decide +kernel
theorem kv1 : validF ik1 = true ∧ encF ik1 = [76, 15, 182, 139, 255, 255, 255, 255] := by decide +kernel
theorem kd0 : decI [65, 87, 0] = ik0 ∧ decN [65, 87, 0] = 2 ∧ decE [65, 87, 0] = 0 := by decide +kernel
theorem kf0 : (fieldsF 41).1 = 1 := by decide +kernel
theorem kt0 : putT 1 16 0 (putT 1 8 0 (putT 1 4 0 (putT 1 2 0 (putT 1 1 15 (wordT 41))))) = [112, 117, 115, 104, 32, 49, 53] := by decide +kernel
theorem kp (f has n : Int) (s : List UInt8) : (putT f has n s).length ≤ s.length + 201 := by
  have := small_len n
  unfold putT
  split
  · rw [List.length_append, List.length_cons]; omega
  · omega
end Go.Proofs.YtjndpakhmgapjaaDoor

namespace Go.Proofs.YtjndpakhmgapjaaDoor
open Go Go.RowKit
set_option linter.unusedVariables false
set_option linter.unnecessarySimpa false
set_option linter.unusedSimpArgs false

set_option maxHeartbeats 400000 in
theorem small68 (n : Int) (h0 : 0 ≤ n) (h1 : n < 100) :
    ACalls Tryd.prog 68 [.v (.int .i64 n)] [] (fun t_ S => t_ = sv (smallT n)) := by
  have hd : digitsL.length = 36 := rfl
  have hp : pairsL.length = 200 := rfl
  refine ACalls.intro Tryd.func68 rfl Tryd.ntmps68 (Nat.le_of_ble_eq_true rfl) rfl fun X w0 => ?_
  refine AW.rseq ?_
  refine AWL.y rfl rfl (B rfl) (Yv.assign rfl (E rfl rfl)) ?_
  refine AWL.nil ?_
  refine AW.seq ?_
  refine AW.rseq ?_
  refine AWL.y rfl rfl (B rfl) (Yv.move rfl (E rfl rfl)) ?_
  refine AWL.y rfl rfl (B rfl) (Yv.lss rfl (E rfl rfl) (E rfl rfl)) ?_
  refine AWL.nil ?_
  refine AW.cond rfl (fun h0t => ?_) (fun h0f => ?_)
  ·
   try replace h0t := of_decide_eq_true h0t
   refine AW.rseq ?_
   refine AWL.y rfl rfl (B rfl) (Yv.move rfl (E rfl rfl)) ?_
   refine AWL.y rfl rfl (B rfl) (Yv.move rfl (E rfl rfl)) ?_
   refine AWL.y rfl rfl (B rfl) (Yv.addN_i64 rfl (E rfl rfl) (E rfl rfl) (fun hg => by omega)) ?_
   refine AWL.y rfl rfl (B rfl) (Yv.sliceL (s := digitsL) rfl st_9 (E rfl rfl) (Bound.some_ (E rfl rfl) (fun hg => (Int.toNat_of_nonneg (by omega)).symm)) (Bound.some_ (E rfl rfl) (fun hg => (Int.toNat_of_nonneg (by omega)).symm)) (fun hg => ⟨by omega, by omega⟩)) ?_
   refine AWL.y rfl rfl (B rfl) (Yv.assign rfl (E rfl rfl)) ?_
   refine AWL.nil ?_
   refine AW.ret (retI (.tmp rfl .nil) ?_)
   rw [smallT, if_pos h0t]
   rfl
  try replace h0f := of_decide_eq_false h0f
  refine AW.skip ?_
  refine AW.rseq ?_
  refine AWL.y rfl rfl (B rfl) (Yv.move rfl (E rfl rfl)) ?_
  refine AWL.y rfl rfl (B rfl) (Yv.mulN_i64 rfl (E rfl rfl) (E rfl rfl) (fun hg => by omega)) ?_
  refine AWL.y rfl rfl (B rfl) (Yv.move rfl (E rfl rfl)) ?_
  refine AWL.y rfl rfl (B rfl) (Yv.mulN_i64 rfl (E rfl rfl) (E rfl rfl) (fun hg => by omega)) ?_
  refine AWL.y rfl rfl (B rfl) (Yv.addN_i64 rfl (E rfl rfl) (E rfl rfl) (fun hg => by omega)) ?_
  refine AWL.y rfl rfl (B rfl) (Yv.sliceL (s := pairsL) rfl st_9 (E rfl rfl) (Bound.some_ (E rfl rfl) (fun hg => (Int.toNat_of_nonneg (by omega)).symm)) (Bound.some_ (E rfl rfl) (fun hg => (Int.toNat_of_nonneg (by omega)).symm)) (fun hg => ⟨by omega, by omega⟩)) ?_
  refine AWL.y rfl rfl (B rfl) (Yv.assign rfl (E rfl rfl)) ?_
  refine AWL.nil ?_
  refine AW.ret (retI (.tmp rfl .nil) ?_)
  rw [smallT, if_neg h0f]
  rfl

set_option maxHeartbeats 400000 in
theorem formatInt56 (n : Int) (h0 : 0 ≤ n) (h1 : n < 100) :
    ACalls Tryd.prog 56 [.v (.int .i64 n), .v (.int .i64 10)] [] (fun t_ S => t_ = sv (smallT n)) := by
  refine ACalls.intro Tryd.func56 rfl Tryd.ntmps56 (Nat.le_of_ble_eq_true rfl) rfl fun X w0 => ?_
  refine AW.rseq ?_
  refine AWL.y rfl rfl (B rfl) (Yv.assign rfl (E rfl rfl)) ?_
  refine AWL.nil ?_
  refine AW.seq ?_
  refine AW.rseq ?_
  refine AWL.y rfl rfl (B rfl) (Yv.move rfl (E rfl rfl)) ?_
  refine AWL.y rfl rfl (B rfl) (Yv.eql rfl (E rfl rfl) (E rfl rfl)) ?_
  refine AWL.nil ?_
  refine AW.cond rfl (fun h0t => ?_) (fun h0f => ?_)
  ·
   try replace h0t := of_decide_eq_true h0t
   refine AW.seq ?_
   refine AW.rseq ?_
   refine AWL.y rfl rfl (B rfl) (Yv.move rfl (E rfl rfl)) ?_
   refine AWL.y rfl rfl (B rfl) (Yv.leq rfl (E rfl rfl) (E rfl rfl)) ?_
   refine AWL.y rfl rfl (B rfl) (Yv.move rfl (E rfl rfl)) ?_
   refine AWL.ygT rfl rfl rfl rfl (B rfl) (Yv.move rfl (E rfl rfl)) ?_
   refine AWL.ygT rfl rfl rfl rfl (B rfl) (Yv.lss rfl (Eg rfl rfl id) (E rfl rfl)) ?_
   refine AWL.y rfl rfl (B rfl) (Yv.pickAnd rfl (E rfl rfl) (Eg rfl rfl id)) ?_
   refine AWL.nil ?_
   refine AW.cond rfl (fun h1t => ?_) (fun h1f => ?_)
   ·
    try replace h1t := of_decide_eq_true h1t
    refine AW.rseq ?_
    refine AWL.y rfl rfl (B rfl) (Yv.move rfl (E rfl rfl)) ?_
    refine AWL.callP rfl rfl (B rfl) rfl ce_68 (E rfl rfl) (evsC (E rfl rfl) evs0) (small68 n h0 h1) (fun t S h => h) ?_
    refine AWL.y rfl rfl (B rfl) (Yv.assign rfl (E rfl rfl)) ?_
    refine AWL.nil ?_
    refine AW.ret (retI (.tmp rfl .nil) ?_)
    rfl
   try replace h1f := of_decide_eq_false h1f
   exfalso
   simp only [Bool.or_eq_true, Bool.and_eq_true, Bool.or_eq_false_iff, Bool.and_eq_false_iff, Bool.not_eq_true', Bool.not_eq_false', decide_eq_true_eq, decide_eq_false_iff_not, Decidable.not_not] at h1f
   omega
  try replace h0f := of_decide_eq_false h0f
  exact absurd h0f (by decide)

set_option maxHeartbeats 400000 in
theorem formatInt41 (n : Int) (h0 : 0 ≤ n) (h1 : n < 100) :
    ACalls Tryd.prog 41 [.v (.int .i64 n), .v (.int .i64 10)] [] (fun t_ S => t_ = sv (smallT n)) := by
  refine ACalls.intro Tryd.func41 rfl Tryd.ntmps41 (Nat.le_of_ble_eq_true rfl) rfl fun X w0 => ?_
  refine AW.rseq ?_
  refine AWL.y rfl rfl (B rfl) (Yv.assign rfl (E rfl rfl)) ?_
  refine AWL.nil ?_
  refine AW.rseq ?_
  refine AWL.y rfl rfl (B rfl) (Yv.move rfl (E rfl rfl)) ?_
  refine AWL.y rfl rfl (B rfl) (Yv.move rfl (E rfl rfl)) ?_
  refine AWL.callP rfl rfl (B rfl) rfl ce_56 (E rfl rfl) (evsC (E rfl rfl) (evsC (E rfl rfl) evs0)) (formatInt56 n h0 h1) (fun t S h => h) ?_
  refine AWL.y rfl rfl (B rfl) (Yv.assign rfl (E rfl rfl)) ?_
  refine AWL.nil ?_
  refine AW.ret (retI (.tmp rfl .nil) ?_)
  rfl

set_option maxRecDepth 2000 in
set_option maxHeartbeats 2000000 in
theorem word39 (k : Int) (h0 : 1 ≤ k) (h1 : k ≤ 52) :
    ACalls Tryd.prog 39 [.v (.int .i64 k)] [] (fun t_ S => t_ = sv (wordT k)) := by
  refine ACalls.intro Tryd.func39 rfl Tryd.ntmps39 (Nat.le_of_ble_eq_true rfl) rfl fun X w0 => ?_
  refine AW.rseq ?_
  refine AWL.y rfl rfl (B rfl) (Yv.assign rfl (E rfl rfl)) ?_
  refine AWL.nil ?_
  refine AW.rseq ?_
  refine AWL.buildSlice1 rfl rfl (B rfl) rfl el_81 rfl (evsC (E rfl rfl) (evsC (E rfl rfl) (evsC (E rfl rfl) (evsC (E rfl rfl) (evsC (E rfl rfl) (evsC (E rfl rfl) (evsC (E rfl rfl) (evsC (E rfl rfl) (evsC (E rfl rfl) (evsC (E rfl rfl) (evsC (E rfl rfl) (evsC (E rfl rfl) (evsC (E rfl rfl) (evsC (E rfl rfl) (evsC (E rfl rfl) (evsC (E rfl rfl) (evsC (E rfl rfl) (evsC (E rfl rfl) (evsC (E rfl rfl) (evsC (E rfl rfl) (evsC (E rfl rfl) (evsC (E rfl rfl) (evsC (E rfl rfl) (evsC (E rfl rfl) (evsC (E rfl rfl) (evsC (E rfl rfl) (evsC (E rfl rfl) (evsC (E rfl rfl) (evsC (E rfl rfl) (evsC (E rfl rfl) (evsC (E rfl rfl) (evsC (E rfl rfl) (evsC (E rfl rfl) (evsC (E rfl rfl) (evsC (E rfl rfl) (evsC (E rfl rfl) (evsC (E rfl rfl) (evsC (E rfl rfl) (evsC (E rfl rfl) (evsC (E rfl rfl) (evsC (E rfl rfl) (evsC (E rfl rfl) (evsC (E rfl rfl) (evsC (E rfl rfl) (evsC (E rfl rfl) (evsC (E rfl rfl) (evsC (E rfl rfl) (evsC (E rfl rfl) (evsC (E rfl rfl) (evsC (E rfl rfl) (evsC (E rfl rfl) (evsC (E rfl rfl) evs0)))))))))))))))))))))))))))))))))))))))))))))))))))) (Nat.le_of_ble_eq_true rfl) rfl rfl ?_
  refine AWL.y rfl rfl (B rfl) (Yv.assign rfl (E rfl rfl)) ?_
  refine AWL.nil ?_
  refine AW.rseq ?_
  refine AWL.y rfl rfl (B rfl) (Yv.move rfl (E rfl rfl)) ?_
  refine AWL.y rfl rfl (B rfl) (Yv.move rfl (E rfl rfl)) ?_
  refine AWL.y rfl rfl (B rfl) (Yv.subN_i64 rfl (E rfl rfl) (E rfl rfl) (fun hg => by omega)) ?_
  refine AWL.y rfl rfl (B rfl) (Yv.indexSl (j := (k.toNat - 1)) rfl ss_81 (B rfl) (E rfl rfl) (E rfl rfl) (fun hg => ⟨by omega, by show (k.toNat - 1) * 1 < 52; omega⟩)) ?_
  refine AWL.y rfl rfl (B rfl) (Yv.loadRp rfl ag_9 (E rfl rfl) (fun hg => word_get (by omega))) ?_
  refine AWL.y rfl rfl (B rfl) (Yv.assign rfl (E rfl rfl)) ?_
  refine AWL.nil ?_
  refine AW.ret (retI (.tmp rfl .nil) ?_)
  rfl

set_option maxHeartbeats 400000 in
theorem put40 (has n f : Int) (s : List UInt8) (b3 b5 : Nat) (hn : putOn f has = true → 0 ≤ n ∧ n < 100) (hl : s.length ≤ 1000) :
    ACalls Tryd.prog 40 [.v (.int .i64 has), .v (.int .i64 n), .v (.pointer (some ⟨b3, 0, none⟩)), .v (.pointer (some ⟨b5, 0, none⟩))] [.box b3 3 [.v (.int .i64 f)], .box b5 9 [sv s]] (fun t_ S => S = [.box b3 3 [.v (.int .i64 f)], .box b5 9 [sv (putT f has n s)]]) := by
  refine ACalls.intro Tryd.func40 rfl Tryd.ntmps40 (Nat.le_of_ble_eq_true rfl) rfl fun X w0 => ?_
  refine AW.rseq ?_
  refine AWL.y rfl rfl (B rfl) (Yv.loadBox rfl ag_3 (i := 0) rfl (E rfl rfl) rfl) ?_
  refine AWL.y rfl rfl (B rfl) (Yv.move rfl (E rfl rfl)) ?_
  refine AWL.y rfl rfl (B rfl) (Yv.bits rfl rfl (E rfl rfl) (E rfl rfl)) ?_
  refine AWL.y rfl rfl (B rfl) (Yv.neq rfl (E rfl rfl) (E rfl rfl)) ?_
  refine AWL.nil ?_
  refine AW.cond rfl (fun h0t => ?_) (fun h0f => ?_)
  ·
   try replace h0t := of_decide_eq_true h0t
   have hn2 := hn h0t
   have hsl := small_len n
   refine AW.regionP rfl ?_
   refine AWP.take (i := 1) rfl (by kernel_rfl) (by kernel_rfl) (by kernel_rfl) rfl rfl (B rfl) (freeMove rfl (E rfl rfl)) ?_
   refine AWP.two (i := 0) (j := 2) (by kernel_rfl) rfl rfl ?_ ?_
   ·
    refine AWL.y rfl rfl (B rfl) (Yv.loadBox rfl ag_9 (i := 1) rfl (E rfl rfl) rfl) ?_
    refine AWL.nil ?_
    refine AWP.one (i := 2) (by kernel_rfl) rfl ?_
    refine AWL.callP rfl rfl (B rfl) rfl ce_41 (E rfl rfl) (evsC (E rfl rfl) (evsC (E rfl rfl) evs0)) (formatInt41 n hn2.1 hn2.2) (fun t S h => h) ?_
    refine AWL.nil ?_
    refine AWP.one (i := 3) (by kernel_rfl) rfl ?_
    refine AWL.y rfl rfl (B rfl) (Yv.addL rfl (E rfl rfl) (E rfl rfl) (fun hg => by first | omega | (simp only [List.length_append, List.length_cons, List.length_nil]; omega))) ?_
    refine AWL.nil ?_
    refine AWP.one (i := 4) (by kernel_rfl) rfl ?_
    refine AWL.y rfl rfl (B rfl) (Yv.addL rfl (E rfl rfl) (E rfl rfl) (fun hg => by first | omega | (simp only [List.length_append, List.length_cons, List.length_nil]; omega))) ?_
    refine AWL.nil ?_
    refine AWP.one (i := 5) (by kernel_rfl) rfl ?_
    refine AWL.storeBox (i := 1) rfl rfl rfl ag_9 rfl (E rfl rfl) (E rfl rfl) rfl rfl (Nat.le_of_ble_eq_true rfl) ?_
    refine AWL.nil ?_
    refine AWP.done (by kernel_rfl) ?_
    refine retN .nil ?_
    (rw [putT, if_pos (show putOn f has = true from h0t)]; rfl)
   ·
    refine AWL.callP rfl rfl (B rfl) rfl ce_41 (E rfl rfl) (evsC (E rfl rfl) (evsC (E rfl rfl) evs0)) (formatInt41 n hn2.1 hn2.2) (fun t S h => h) ?_
    refine AWL.nil ?_
    refine AWP.two (i := 0) (j := 3) (by kernel_rfl) rfl rfl ?_ ?_
    ·
     refine AWL.y rfl rfl (B rfl) (Yv.loadBox rfl ag_9 (i := 1) rfl (E rfl rfl) rfl) ?_
     refine AWL.nil ?_
     refine AWP.one (i := 3) (by kernel_rfl) rfl ?_
     refine AWL.y rfl rfl (B rfl) (Yv.addL rfl (E rfl rfl) (E rfl rfl) (fun hg => by first | omega | (simp only [List.length_append, List.length_cons, List.length_nil]; omega))) ?_
     refine AWL.nil ?_
     refine AWP.one (i := 4) (by kernel_rfl) rfl ?_
     refine AWL.y rfl rfl (B rfl) (Yv.addL rfl (E rfl rfl) (E rfl rfl) (fun hg => by first | omega | (simp only [List.length_append, List.length_cons, List.length_nil]; omega))) ?_
     refine AWL.nil ?_
     refine AWP.one (i := 5) (by kernel_rfl) rfl ?_
     refine AWL.storeBox (i := 1) rfl rfl rfl ag_9 rfl (E rfl rfl) (E rfl rfl) rfl rfl (Nat.le_of_ble_eq_true rfl) ?_
     refine AWL.nil ?_
     refine AWP.done (by kernel_rfl) ?_
     refine retN .nil ?_
     (rw [putT, if_pos (show putOn f has = true from h0t)]; rfl)
    ·
     refine AWL.y rfl rfl (B rfl) (Yv.addL rfl (E rfl rfl) (E rfl rfl) (fun hg => by first | omega | (simp only [List.length_append, List.length_cons, List.length_nil]; omega))) ?_
     refine AWL.nil ?_
     refine AWP.one (i := 0) (by kernel_rfl) rfl ?_
     refine AWL.y rfl rfl (B rfl) (Yv.loadBox rfl ag_9 (i := 1) rfl (E rfl rfl) rfl) ?_
     refine AWL.nil ?_
     refine AWP.one (i := 4) (by kernel_rfl) rfl ?_
     refine AWL.y rfl rfl (B rfl) (Yv.addL rfl (E rfl rfl) (E rfl rfl) (fun hg => by first | omega | (simp only [List.length_append, List.length_cons, List.length_nil]; omega))) ?_
     refine AWL.nil ?_
     refine AWP.one (i := 5) (by kernel_rfl) rfl ?_
     refine AWL.storeBox (i := 1) rfl rfl rfl ag_9 rfl (E rfl rfl) (E rfl rfl) rfl rfl (Nat.le_of_ble_eq_true rfl) ?_
     refine AWL.nil ?_
     refine AWP.done (by kernel_rfl) ?_
     refine retN .nil ?_
     (rw [putT, if_pos (show putOn f has = true from h0t)]; rfl)
  try replace h0f := of_decide_eq_false h0f
  refine AW.skip ?_
  refine retN .nil ?_
  (rw [putT, if_neg (show ¬ putOn f has = true from ne_true_of_eq_false h0f)])

set_option maxHeartbeats 1000000 in
theorem text14  :
    ACalls Tryd.prog 14 [insT ik0] [] (fun t_ S => t_ = sv [112, 117, 115, 104, 32, 49, 53]) := by
  refine ACalls.intro Tryd.func14 rfl Tryd.ntmps14 (Nat.le_of_ble_eq_true rfl) rfl fun X w0 => ?_
  refine AW.rseq ?_
  refine AWL.boxOp rfl rfl (B rfl) rfl (E rfl rfl) rfl (fun b1 => ?_)
  refine AWL.y rfl rfl (B rfl) (Yv.assign rfl (E rfl rfl)) ?_
  refine AWL.nil ?_
  refine AW.seq ?_
  refine AW.rseq ?_
  refine AWL.y rfl rfl (B rfl) (Yv.loadBoxA rfl ag_23 (i := 0) rfl (E rfl rfl) rfl rfl) ?_
  refine AWL.callP rfl rfl (B rfl) rfl ce_12 (E rfl rfl) (evsC (E rfl rfl) evs0) (valid27 ik0) (fun t S h => h) ?_
  refine AWL.y rfl rfl (B rfl) (Yv.not rfl (E rfl rfl)) ?_
  refine AWL.nil ?_
  refine AW.cond rfl (fun h0t => ?_) (fun h0f => ?_)
  ·
   try replace h0t := of_decide_eq_true h0t
   rw [kv0] at h0t
   cases h0t
  try replace h0f := of_decide_eq_false h0f
  refine AW.skip ?_
  refine AW.rseq ?_
  refine AWL.y rfl rfl (B rfl) (Yv.fieldBox rfl fo_23_0 (E rfl rfl)) ?_
  refine AWL.y rfl rfl (B rfl) (Yv.loadBox rfl ag_3 (i := 0) rfl (E rfl rfl) rfl) ?_
  refine AWL.callT rfl rfl (B rfl) rfl ce_35 (E rfl rfl) (evsC (E rfl rfl) evs0) (fields46 41) ?_
  rintro t13 S13 rfl
  rw [kf0]
  refine AWL.y rfl rfl (B rfl) (Yv.move rfl (E rfl rfl)) ?_
  refine AWL.y rfl rfl (B rfl) (Yv.extract rfl (E rfl rfl) rfl) ?_
  refine AWL.y rfl rfl (B rfl) (Yv.extract rfl (E rfl rfl) rfl) ?_
  refine AWL.allocOp rfl rfl (B rfl) rfl zc_3 (fun b3 => ?_)
  refine AWL.storeBox (i := 1) rfl rfl rfl ag_3 rfl (E rfl rfl) (E rfl rfl) rfl rfl (Nat.le_of_ble_eq_true rfl) ?_
  refine AWL.y rfl rfl (B rfl) (Yv.assign rfl (E rfl rfl)) ?_
  refine AWL.nil ?_
  refine AW.rseq ?_
  refine AWL.y rfl rfl (B rfl) (Yv.fieldBox rfl fo_23_0 (E rfl rfl)) ?_
  refine AWL.y rfl rfl (B rfl) (Yv.loadBox rfl ag_3 (i := 0) rfl (E rfl rfl) rfl) ?_
  refine AWL.callP rfl rfl (B rfl) rfl ce_39 (E rfl rfl) (evsC (E rfl rfl) evs0) (word39 41 (by decide) (by decide)) (fun t S h => h) ?_
  refine AWL.allocOp rfl rfl (B rfl) rfl zc_9 (fun b5 => ?_)
  refine AWL.storeBox (i := 2) rfl rfl rfl ag_9 rfl (E rfl rfl) (E rfl rfl) rfl rfl (Nat.le_of_ble_eq_true rfl) ?_
  refine AWL.nil ?_
  refine AW.rseq ?_
  refine AWL.y rfl rfl (B rfl) (Yv.makeFunc rfl evs0 rfl (evsC (E rfl rfl) (evsC (E rfl rfl) evs0)) rfl) ?_
  refine AWL.y rfl rfl (B rfl) (Yv.assign rfl (E rfl rfl)) ?_
  refine AWL.nil ?_
  refine AW.perm (S' := [Ent.box b3 3 [T.v (.int .i64 1)], Ent.box b5 9 [sv (wordT 41)]] ++ [.box b1 23 (insCells ik0)]) (List.perm_append_comm (l₁ := [_, _]) (l₂ := [_])) ?_
  refine AW.rseq ?_
  refine AWL.y rfl rfl (B rfl) (Yv.move rfl (E rfl rfl)) ?_
  refine AWL.y rfl rfl (B rfl) (Yv.fieldBox rfl fo_23_1 (E rfl rfl)) ?_
  refine AWL.y rfl rfl (B rfl) (Yv.loadBox rfl ag_3 (i := 2) rfl (E rfl rfl) rfl) ?_
  refine AWL.call rfl rfl (B rfl) rfl ce_40 (E rfl rfl) (evsC (E rfl rfl) (evsC (E rfl rfl) evs0)) (S1 := [Ent.box b3 3 [T.v (.int .i64 1)], Ent.box b5 9 [sv ((wordT 41))]]) (S2 := _) rfl (put40 1 15 1 (wordT 41) b3 b5 (by decide) (by decide +kernel)) ?_
  rintro t23 S23 rfl
  refine AWL.nil ?_
  refine AW.rseq ?_
  refine AWL.y rfl rfl (B rfl) (Yv.move rfl (E rfl rfl)) ?_
  refine AWL.y rfl rfl (B rfl) (Yv.fieldBox rfl fo_23_2 (E rfl rfl)) ?_
  refine AWL.y rfl rfl (B rfl) (Yv.loadBox rfl ag_3 (i := 2) rfl (E rfl rfl) rfl) ?_
  refine AWL.call rfl rfl (B rfl) rfl ce_40 (E rfl rfl) (evsC (E rfl rfl) (evsC (E rfl rfl) evs0)) (S1 := [Ent.box b3 3 [T.v (.int .i64 1)], Ent.box b5 9 [sv ((putT 1 1 15 (wordT 41)))]]) (S2 := _) rfl (put40 2 0 1 (putT 1 1 15 (wordT 41)) b3 b5 (by decide) (by decide +kernel)) ?_
  rintro t27 S27 rfl
  refine AWL.nil ?_
  refine AW.rseq ?_
  refine AWL.y rfl rfl (B rfl) (Yv.move rfl (E rfl rfl)) ?_
  refine AWL.y rfl rfl (B rfl) (Yv.fieldBox rfl fo_23_5 (E rfl rfl)) ?_
  refine AWL.y rfl rfl (B rfl) (Yv.loadBox rfl ag_2 (i := 2) rfl (E rfl rfl) rfl) ?_
  refine AWL.call rfl rfl (B rfl) rfl ce_40 (E rfl rfl) (evsC (E rfl rfl) (evsC (E rfl rfl) evs0)) (S1 := [Ent.box b3 3 [T.v (.int .i64 1)], Ent.box b5 9 [sv ((putT 1 2 0 (putT 1 1 15 (wordT 41))))]]) (S2 := _) rfl (put40 4 0 1 (putT 1 2 0 (putT 1 1 15 (wordT 41))) b3 b5 (by decide) (by decide +kernel)) ?_
  rintro t31 S31 rfl
  refine AWL.nil ?_
  refine AW.rseq ?_
  refine AWL.y rfl rfl (B rfl) (Yv.move rfl (E rfl rfl)) ?_
  refine AWL.y rfl rfl (B rfl) (Yv.fieldBox rfl fo_23_3 (E rfl rfl)) ?_
  refine AWL.y rfl rfl (B rfl) (Yv.loadBox rfl ag_3 (i := 2) rfl (E rfl rfl) rfl) ?_
  refine AWL.call rfl rfl (B rfl) rfl ce_40 (E rfl rfl) (evsC (E rfl rfl) (evsC (E rfl rfl) evs0)) (S1 := [Ent.box b3 3 [T.v (.int .i64 1)], Ent.box b5 9 [sv ((putT 1 4 0 (putT 1 2 0 (putT 1 1 15 (wordT 41)))))]]) (S2 := _) rfl (put40 8 0 1 (putT 1 4 0 (putT 1 2 0 (putT 1 1 15 (wordT 41)))) b3 b5 (by decide) (by decide +kernel)) ?_
  rintro t35 S35 rfl
  refine AWL.nil ?_
  refine AW.rseq ?_
  refine AWL.y rfl rfl (B rfl) (Yv.move rfl (E rfl rfl)) ?_
  refine AWL.y rfl rfl (B rfl) (Yv.fieldBox rfl fo_23_4 (E rfl rfl)) ?_
  refine AWL.y rfl rfl (B rfl) (Yv.loadBox rfl ag_3 (i := 2) rfl (E rfl rfl) rfl) ?_
  refine AWL.call rfl rfl (B rfl) rfl ce_40 (E rfl rfl) (evsC (E rfl rfl) (evsC (E rfl rfl) evs0)) (S1 := [Ent.box b3 3 [T.v (.int .i64 1)], Ent.box b5 9 [sv ((putT 1 8 0 (putT 1 4 0 (putT 1 2 0 (putT 1 1 15 (wordT 41))))))]]) (S2 := _) rfl (put40 16 0 1 (putT 1 8 0 (putT 1 4 0 (putT 1 2 0 (putT 1 1 15 (wordT 41))))) b3 b5 (by decide) (by decide +kernel)) ?_
  rintro t39 S39 rfl
  refine AWL.nil ?_
  refine AW.rseq ?_
  refine AWL.y rfl rfl (B rfl) (Yv.loadBox rfl ag_9 (i := 1) rfl (E rfl rfl) rfl) ?_
  refine AWL.y rfl rfl (B rfl) (Yv.assign rfl (E rfl rfl)) ?_
  refine AWL.nil ?_
  refine AW.ret (retI (.tmp rfl .nil) ?_)
  rw [kt0]
  rfl

set_option maxHeartbeats 1000000 in
theorem known16  :
    ACalls Tryd.prog 16 [] [] fun t_ S => t_ = .v (.bool true) := by
  refine ACalls.intro Tryd.func16 rfl Tryd.ntmps16 (Nat.le_of_ble_eq_true rfl) rfl fun X w0 => ?_
  refine AW.rseq ?_
  refine AWL.y rfl rfl (B rfl) (Yv.assign rfl (E rfl rfl)) ?_
  refine AWL.nil ?_
  refine AW.rseq ?_
  refine AWL.y rfl rfl (B rfl) (Yv.buildS rfl sh_23 (evpC (E rfl rfl) (evpC (E rfl rfl) (evpC (E rfl rfl) (evpC (E rfl rfl) (evpC (E rfl rfl) evp0))))) (fun _ => rfl)) ?_
  refine AWL.callT rfl rfl (B rfl) rfl ce_11 (E rfl rfl) (evsC (E rfl rfl) evs0) (encode19 ik1) ?_
  rintro t8 S8 rfl
  rw [if_pos kv1.1, kv1.2]
  refine AWL.y rfl rfl (B rfl) (Yv.move rfl (E rfl rfl)) ?_
  refine AWL.y rfl rfl (B rfl) (Yv.extract rfl (E rfl rfl) rfl) ?_
  refine AWL.y rfl rfl (B rfl) (Yv.extract rfl (E rfl rfl) rfl) ?_
  refine AWL.y rfl rfl (B rfl) (Yv.assign rfl (E rfl rfl)) ?_
  refine AWL.y rfl rfl (B rfl) (Yv.assign rfl (E rfl rfl)) ?_
  refine AWL.nil ?_
  refine AW.rseq ?_
  refine AWL.buildSlice1 rfl rfl (B rfl) rfl el_24 rfl (evsC (E rfl rfl) (evsC (E rfl rfl) (evsC (E rfl rfl) evs0))) (Nat.le_of_ble_eq_true rfl) rfl rfl ?_
  refine AWL.callT rfl rfl (B rfl) rfl ce_17 (E rfl rfl) (evsC (E rfl rfl) evs0) (Decode42 [65, 87, 0] (by decide)) ?_
  rintro t13 S13 rfl
  rw [kd0.1, kd0.2.1, kd0.2.2]
  refine AWL.y rfl rfl (B rfl) (Yv.move rfl (E rfl rfl)) ?_
  refine AWL.y rfl rfl (B rfl) (Yv.extract rfl (E rfl rfl) rfl) ?_
  refine AWL.y rfl rfl (B rfl) (Yv.extract rfl (E rfl rfl) rfl) ?_
  refine AWL.y rfl rfl (B rfl) (Yv.extract rfl (E rfl rfl) rfl) ?_
  refine AWL.allocOp rfl rfl (B rfl) rfl zc_23 (fun b3 => ?_)
  refine AWL.storeBox (i := 0) rfl rfl rfl ag_23 rfl (E rfl rfl) (E rfl rfl) rfl rfl (Nat.le_of_ble_eq_true rfl) ?_
  refine AWL.y rfl rfl (B rfl) (Yv.assign rfl (E rfl rfl)) ?_
  refine AWL.y rfl rfl (B rfl) (Yv.assign rfl (E rfl rfl)) ?_
  refine AWL.nil ?_
  refine AW.rseq ?_
  refine AWL.y rfl rfl (B rfl) (Yv.move rfl (E rfl rfl)) ?_
  refine AWL.y rfl rfl (B rfl) (Yv.eql rfl (E rfl rfl) (E rfl rfl)) ?_
  refine AWL.y rfl rfl (B rfl) (Yv.move rfl (E rfl rfl)) ?_
  refine AWL.ygT rfl rfl rfl rfl (B rfl) (Yv.move rfl (E rfl rfl)) ?_
  refine AWL.ygT rfl rfl rfl rfl (B rfl) (Yv.bytesStr rfl by_24 st_9 (Eg rfl rfl id)) ?_
  refine AWL.ygT rfl rfl rfl rfl (B rfl) (Yv.eqlL rfl (Eg rfl rfl id) (E rfl rfl)) ?_
  refine AWL.y rfl rfl (B rfl) (Yv.pickAnd rfl (E rfl rfl) (Eg rfl rfl id)) ?_
  refine AWL.y rfl rfl (B rfl) (Yv.move rfl (E rfl rfl)) ?_
  refine AWL.ygT rfl rfl rfl rfl (B rfl) (Yv.move rfl (E rfl rfl)) ?_
  refine AWL.ygT rfl rfl rfl rfl (B rfl) (Yv.eql rfl (Eg rfl rfl id) (E rfl rfl)) ?_
  refine AWL.y rfl rfl (B rfl) (Yv.pickAnd rfl (E rfl rfl) (Eg rfl rfl id)) ?_
  refine AWL.y rfl rfl (B rfl) (Yv.move rfl (E rfl rfl)) ?_
  refine AWL.ygT rfl rfl rfl rfl (B rfl) (Yv.move rfl (E rfl rfl)) ?_
  refine AWL.ygT rfl rfl rfl rfl (B rfl) (Yv.eql rfl (Eg rfl rfl id) (E rfl rfl)) ?_
  refine AWL.y rfl rfl (B rfl) (Yv.pickAnd rfl (E rfl rfl) (Eg rfl rfl id)) ?_
  refine AWL.y rfl rfl (B rfl) (Yv.move rfl (E rfl rfl)) ?_
  refine AWL.ygT rfl rfl rfl rfl (B rfl) (Yv.loadBoxA rfl ag_23 (i := 0) rfl (E rfl rfl) rfl rfl) ?_
  refine AWL.ygT rfl rfl rfl rfl (B rfl) (Yv.buildS rfl sh_23 (evpC (E rfl rfl) (evpC (E rfl rfl) evp0)) (fun _ => rfl)) ?_
  refine AWL.ygT rfl rfl rfl rfl (B rfl) (Yv.eqlA rfl fl_23 (Eg rfl rfl id) (Eg rfl rfl id) rfl rfl rfl) ?_
  refine AWL.y rfl rfl (B rfl) (Yv.pickAnd rfl (E rfl rfl) (Eg rfl rfl id)) ?_
  refine AWL.y rfl rfl (B rfl) (Yv.move rfl (E rfl rfl)) ?_
  refine AWL.ygT rfl rfl rfl rfl (B rfl) (Yv.loadBoxA rfl ag_23 (i := 0) rfl (E rfl rfl) rfl rfl) ?_
  refine AWL.callPgT rfl rfl rfl rfl (B rfl) rfl ce_12 (E rfl rfl) (evsC (Eg rfl rfl id) evs0) (fun hg => valid27 ik0) (fun t S h => h) ?_
  refine AWL.y rfl rfl (B rfl) (Yv.pickAnd rfl (E rfl rfl) (Eg rfl rfl id)) ?_
  refine AWL.y rfl rfl (B rfl) (Yv.move rfl (E rfl rfl)) ?_
  refine AWL.ygT rfl rfl rfl rfl (B rfl) (Yv.loadBoxA rfl ag_23 (i := 0) rfl (E rfl rfl) rfl rfl) ?_
  refine AWL.callPgT rfl rfl rfl rfl (B rfl) rfl ce_14 (E rfl rfl) (evsC (Eg rfl rfl id) evs0) (fun hg => text14) (fun t S h => h) ?_
  refine AWL.ygT rfl rfl rfl rfl (B rfl) (Yv.eqlL rfl (Eg rfl rfl id) (E rfl rfl)) ?_
  refine AWL.y rfl rfl (B rfl) (Yv.pickAnd rfl (E rfl rfl) (Eg rfl rfl id)) ?_
  refine AWL.y rfl rfl (B rfl) (Yv.assign rfl (E rfl rfl)) ?_
  refine AWL.nil ?_
  refine AW.ret (retI (.tmp rfl .nil) ?_)
  rw [kv0]
  rfl

end Go.Proofs.YtjndpakhmgapjaaDoor

namespace Go.Proofs.YtjndpakhmgapjaaDoor
open Go Go.RowKit
set_option linter.unusedSimpArgs false
set_option linter.unusedVariables false
structure Line where
  kind : Int
  ins : Ins
  l : Int
  cond : Int
  d : Int
  deriving Inhabited, DecidableEq
def lineCells (x : Line) : List T := [.v (.int .i64 x.kind), .v (.int .i64 x.ins.kind), .v (.int .i64 x.ins.d), .v (.int .i64 x.ins.s), .v (.int .i64 x.ins.cond), .v (.int .i64 x.ins.size), .v (.int .i64 x.ins.imm), .v (.int .i64 x.l), .v (.int .i64 x.cond), .v (.int .i64 x.d)]
def lineVals (x : Line) : List Value := [.int .i64 x.kind, .int .i64 x.ins.kind, .int .i64 x.ins.d, .int .i64 x.ins.s, .int .i64 x.ins.cond, .int .i64 x.ins.size, .int .i64 x.ins.imm, .int .i64 x.l, .int .i64 x.cond, .int .i64 x.d]
def linesT (l : List Line) : T := .sl 10 (l.flatMap lineCells)
def inssT (l : List Ins) : T := .sl 6 (l.flatMap insCells)
structure LineOk (x : Line) : Prop where
  kind : I64 x.kind
  ins : InsOk x.ins
  l : I64 x.l
  cond : I64 x.cond
  d : I64 x.d

theorem len_flat {α : Type} {f : α → List T} {k : Nat} (hk : ∀ a, (f a).length = k) : ∀ (l : List α), (l.flatMap f).length = l.length * k
  | [] => by simp
  | a :: r => by rw [List.flatMap_cons, List.length_append, hk, len_flat hk r, List.length_cons, Nat.add_mul]; omega
theorem drop_flat {α : Type} {f : α → List T} {k : Nat} (hk : ∀ a, (f a).length = k) : ∀ (l : List α) (j : Nat), (l.flatMap f).drop (j * k) = (l.drop j).flatMap f
  | [], j => by simp
  | a :: r, 0 => by simp
  | a :: r, j + 1 => by
    rw [List.flatMap_cons, Nat.add_mul, Nat.one_mul, Nat.add_comm, List.drop_append, List.drop_of_length_le (by rw [hk]; omega), hk, List.nil_append, Nat.add_sub_cancel_left, drop_flat hk r j]
    rfl
theorem getD_eq' {α : Type} [Inhabited α] {l : List α} {j : Nat} (h : j < l.length) : l.getD j default = l[j] := by simp [h]
theorem getD_mem' {α : Type} [Inhabited α] {l : List α} {j : Nat} (h : j < l.length) : l.getD j default ∈ l := by
  rw [getD_eq' h]; exact List.getElem_mem h
theorem flat_at {α : Type} [Inhabited α] {f : α → List T} {k : Nat} (hk : ∀ a, (f a).length = k) {l : List α} {j : Nat} (h : j < l.length) (i : Nat) (hi : i < k) : (l.flatMap f)[j * k + i]? = (f (l.getD j default))[i]? := by
  rw [← List.getElem?_drop, drop_flat hk, List.drop_eq_getElem_cons h, List.flatMap_cons, getD_eq' h, List.getElem?_append_left (by rw [hk]; exact hi)]
theorem flat_get {α : Type} [Inhabited α] {f : α → List T} {k : Nat} (hk : ∀ a, (f a).length = k) {l : List α} {j : Nat} (h : j < l.length) : ((l.flatMap f).drop (j * k)).take k = f (l.getD j default) ∧ (f (l.getD j default)).length = k := by
  refine ⟨?_, hk _⟩
  rw [drop_flat hk, List.drop_eq_getElem_cons h, List.flatMap_cons, getD_eq' h, List.take_left' (hk _)]
theorem lk (x : Line) : (lineCells x).length = 10 := rfl
theorem ik (i : Ins) : (insCells i).length = 6 := rfl
theorem len_lines {l : List Line} : (l.flatMap lineCells).length = l.length * 10 := len_flat lk l
theorem len_inss {l : List Ins} : (l.flatMap insCells).length = l.length * 6 := len_flat ik l
theorem line_get {l : List Line} {j : Nat} (h : j < l.length) : ((l.flatMap lineCells).drop (j * 10)).take 10 = lineCells (l.getD j default) ∧ (lineCells (l.getD j default)).length = 10 := flat_get lk h
theorem ins_get {l : List Ins} {j : Nat} (h : j < l.length) : ((l.flatMap insCells).drop (j * 6)).take 6 = insCells (l.getD j default) ∧ (insCells (l.getD j default)).length = 6 := flat_get ik h
theorem line_at {l : List Line} {j : Nat} (h : j < l.length) (i : Nat) (hi : i < 10) : (l.flatMap lineCells)[j * 10 + i]? = (lineCells (l.getD j default))[i]? := flat_at lk h i hi
theorem line_at0 {l : List Line} {j : Nat} (h : j < l.length) : (l.flatMap lineCells)[j * 10]? = some (.v (.int .i64 (l.getD j default).kind)) := line_at h 0 (by decide)
theorem line_at7 {l : List Line} {j : Nat} (h : j < l.length) : (l.flatMap lineCells)[j * 10 + 7]? = some (.v (.int .i64 (l.getD j default).l)) := line_at h 7 (by decide)
theorem take_flat {α β : Type} [Inhabited α] {f : α → List β} {l : List α} {j : Nat} (h : j < l.length) : (l.take (j + 1)).flatMap f = (l.take j).flatMap f ++ f (l.getD j default) := by
  rw [List.take_succ_eq_append_getElem h, List.flatMap_append, getD_eq' h]
  simp
theorem take_getD {α : Type} [Inhabited α] {l : List α} {j : Nat} (h : j < l.length) : l.take (j + 1) = l.take j ++ [l.getD j default] := by
  rw [List.take_succ_eq_append_getElem h, getD_eq' h]

theorem snocInd {α : Type} {P : List α → Prop} (nil : P []) (snoc : ∀ l x, P l → P (l ++ [x])) (l : List α) : P l := by
  have h : ∀ r : List α, P r.reverse := by
    intro r
    induction r with
    | nil => exact nil
    | cons x r ih => rw [List.reverse_cons]; exact snoc _ _ ih
  have h2 := h l.reverse
  rwa [List.reverse_reverse] at h2

/-! ### maps of labels -/
def getA (k : Int) : List (Int × Nat) → Option Nat
  | [] => none
  | e :: r => if e.1 = k then some e.2 else getA k r
def putA (k : Int) (v : Nat) : List (Int × Nat) → List (Int × Nat)
  | [] => [(k, v)]
  | e :: r => if e.1 = k then (k, v) :: r else e :: putA k v r
def mE (m : List (Int × Nat)) : List (Key × T) := m.map fun e => (.i .i64 e.1, .v (.int .i64 (e.2 : Int)))
theorem getK_mE (k : Int) : ∀ m, getK (.i .i64 k) (mE m) = (getA k m).map fun v : Nat => T.v (.int .i64 (v : Int))
  | [] => rfl
  | e :: r => by
    have ih := getK_mE k r
    simp only [mE, List.map_cons, getK, getA, Key.i.injEq, true_and] at ih ⊢
    split
    · rfl
    · exact ih
theorem putK_mE (k : Int) (v : Nat) : ∀ m, putK (.i .i64 k) (.v (.int .i64 (v : Int))) (mE m) = mE (putA k v m)
  | [] => rfl
  | e :: r => by
    have ih := putK_mE k v r
    simp only [mE, List.map_cons, putK, putA, Key.i.injEq, true_and] at ih ⊢
    split
    · rfl
    · rw [List.map_cons, ih]
theorem mE_good : ∀ m, ∀ e ∈ mE m, goodK (.int .i64) e.1 = true := by
  intro m e he
  simp only [mE, List.mem_map] at he
  obtain ⟨x, _, rfl⟩ := he
  rfl
theorem getA_putA (k k' : Int) (v : Nat) : ∀ m, getA k' (putA k v m) = if k' = k then some v else getA k' m
  | [] => by
    simp only [putA, getA]
    by_cases h : k' = k
    · rw [if_pos h, if_pos h.symm]
    · rw [if_neg h, if_neg (fun q => h q.symm)]
  | e :: r => by
    simp only [putA]
    split
    · rename_i he
      simp only [getA]
      by_cases h : k' = k
      · rw [if_pos h, if_pos h.symm]
      · rw [if_neg h, if_neg (fun q => h q.symm), if_neg (fun q => h (q.symm.trans he))]
    · rename_i he
      simp only [getA, getA_putA k k' v r]
      by_cases h : k' = k
      · subst h; rw [if_pos rfl, if_neg he, if_pos rfl]
      · rw [if_neg h, if_neg h]
def lookN (k : Int) (m : List (Int × Nat)) : Nat := (getA k m).getD 0
theorem look_mE (k : Int) (m : List (Int × Nat)) : (getK (.i .i64 k) (mE m)).getD (T.v (.int .i64 0)) = T.v (.int .i64 (lookN k m : Int)) := by
  rw [getK_mE, lookN]
  cases getA k m <;> rfl
/-- How often labels stand in lines. -/
def cntM (l : List Line) : List (Int × Nat) := l.foldl (fun m x => if x.kind = 2 then putA x.l (lookN x.l m + 1) m else m) []
theorem cntM_snoc (l : List Line) (x : Line) : cntM (l ++ [x]) = if x.kind = 2 then putA x.l (lookN x.l (cntM l) + 1) (cntM l) else cntM l := by
  simp [cntM, List.foldl_append]
def isLab (k : Int) (x : Line) : Bool := decide (x.kind = 2) && decide (x.l = k)
theorem cntM_count (k : Int) (l : List Line) : lookN k (cntM l) = l.countP (isLab k) := by
  induction l using snocInd with
  | nil => rfl
  | snoc l x ih =>
    rw [cntM_snoc, List.countP_append, ← ih]
    by_cases hx : x.kind = 2
    · rw [if_pos hx]
      by_cases hl : k = x.l
      · subst hl
        rw [lookN, getA_putA, if_pos rfl]
        simp [isLab, hx]
      · rw [lookN, getA_putA, if_neg hl]
        have : ¬ x.l = k := fun q => hl q.symm
        simp [isLab, hx, this, lookN]
    · rw [if_neg hx]
      simp [isLab, hx]
/-- Which line a label is (the last one). -/
def labG (i : Nat) (l : List Line) (m : List (Int × Nat)) : List (Int × Nat) :=
  match l with
  | [] => m
  | x :: r => labG (i + 1) r (if x.kind = 2 then putA x.l i m else m)
def labM (l : List Line) : List (Int × Nat) := labG 0 l []
theorem labG_snoc (x : Line) : ∀ (l : List Line) (i : Nat) (m : List (Int × Nat)), labG i (l ++ [x]) m = if x.kind = 2 then putA x.l (i + l.length) (labG i l m) else labG i l m
  | [], i, m => by simp [labG]
  | y :: l, i, m => by
    rw [List.cons_append, labG, labG_snoc x l, labG, List.length_cons]
    congr 2; omega
theorem labM_snoc (l : List Line) (x : Line) : labM (l ++ [x]) = if x.kind = 2 then putA x.l l.length (labM l) else labM l := by
  rw [labM, labG_snoc, Nat.zero_add]; rfl
theorem labM_lt (k : Int) (l : List Line) (v : Nat) (h : getA k (labM l) = some v) : v < l.length ∧ isLab k (l.getD v default) = true := by
  induction l using snocInd with
  | nil => cases h
  | snoc l x ih =>
    have old : getA k (labM l) = some v → v < (l ++ [x]).length ∧ isLab k ((l ++ [x]).getD v default) = true := fun h => by
      obtain ⟨h1, h2⟩ := ih h
      refine ⟨by rw [List.length_append]; omega, ?_⟩
      rw [getD_eq' (by rw [List.length_append]; omega), List.getElem_append_left h1, ← getD_eq' h1]; exact h2
    rw [labM_snoc] at h
    split at h
    · rename_i hx
      rw [getA_putA] at h
      split at h
      · rename_i hk
        cases h
        refine ⟨by simp, ?_⟩
        rw [getD_eq' (by simp)]
        simp [isLab, hx, hk]
      · exact old h
    · exact old h
theorem labM_none (k : Int) (l : List Line) (h : getA k (labM l) = none) : l.countP (isLab k) = 0 := by
  induction l using snocInd with
  | nil => rfl
  | snoc l x ih =>
    rw [labM_snoc] at h
    rw [List.countP_append]
    split at h
    · rename_i hx
      rw [getA_putA] at h
      split at h
      · cases h
      · rename_i hk
        rw [ih h]
        have : ¬ x.l = k := fun q => hk q.symm
        simp [isLab, this]
    · rename_i hx
      rw [ih h]
      simp [isLab, hx]
theorem lookN_lt (k : Int) (l : List Line) : lookN k (labM l) ≤ l.length := by
  rw [lookN]
  cases h : getA k (labM l) with
  | none => exact Nat.zero_le _
  | some v => exact Nat.le_of_lt (labM_lt k l v h).1

/-! ### which lines may be -/
def goesF (k : Int) : Bool := decide (k = 3) || decide (k = 4) || decide (k = 5) || decide (k = 6)
def badArg (x : Line) : Bool := decide (x.kind < 1) || decide (6 < x.kind) || (decide (x.kind = 4) && (decide (x.cond < 0) || decide (15 < x.cond))) || (decide (x.kind = 6) && (decide (x.d < 0) || decide (15 < x.d)))
def lineErr (x : Line) : Int := if badArg x = true then 1 else if (decide (x.kind = 1) && !validF x.ins) = true then 200 else 0
def labBad (m : List (Int × Nat)) (x : Line) : Bool := decide (x.kind = 2) && decide ((1 : Int) < (lookN x.l m : Nat)) || goesF x.kind && decide (((lookN x.l m : Nat) : Int) = 0)
def checkF (l : List Line) : Int :=
  match l.find? (fun x => !decide (lineErr x = 0)) with
  | some x => lineErr x
  | none => if l.any (labBad (cntM l)) = true then 220 else 0

theorem bad1 {x : Line} (h : (decide (x.kind < 1) || decide (6 < x.kind)) = true) : lineErr x = 1 := by
  rw [lineErr, if_pos]; unfold badArg; rw [h]; rfl
theorem bad2 {x : Line} (h : (decide (x.kind = 4) && (decide (x.cond < 0) || decide (15 < x.cond))) = true) : lineErr x = 1 := by
  rw [lineErr, if_pos]; unfold badArg; rw [h, Bool.or_true]; rfl
theorem bad3 {x : Line} (h : (decide (x.kind = 6) && (decide (x.d < 0) || decide (15 < x.d))) = true) : lineErr x = 1 := by
  rw [lineErr, if_pos]; unfold badArg; rw [h, Bool.or_true]
theorem bad0_ {x : Line} (h1 : (decide (x.kind < 1) || decide (6 < x.kind)) = false) (h2 : (decide (x.kind = 4) && (decide (x.cond < 0) || decide (15 < x.cond))) = false) (h3 : (decide (x.kind = 6) && (decide (x.d < 0) || decide (15 < x.d))) = false) : badArg x = false := by
  unfold badArg; rw [h1, h2, h3]; rfl
theorem lineErr_ok {x : Line} (h : badArg x = false) (h4 : (decide (x.kind = 1) && !validF x.ins) = false) : lineErr x = 0 := by
  rw [lineErr, if_neg (by rw [h]; decide), if_neg (by rw [h4]; decide)]
theorem lineErr_ins {x : Line} (h : badArg x = false) (h4 : (decide (x.kind = 1) && !validF x.ins) = true) : lineErr x = 200 := by
  rw [lineErr, if_neg (by rw [h]; decide), if_pos h4]
theorem find_none' {l : List Line} (h : ∀ i, i < l.length → lineErr (l.getD i default) = 0) : l.find? (fun x => !decide (lineErr x = 0)) = none := by
  rw [List.find?_eq_none]
  intro x hx
  obtain ⟨i, hi, rfl⟩ := List.mem_iff_getElem.1 hx
  have := h i hi
  rw [getD_eq' hi] at this
  simp [this]
theorem checkF_line {l : List Line} {j : Nat} (hj : j < l.length) (hp : ∀ i, i < j → lineErr (l.getD i default) = 0) (he : lineErr (l.getD j default) ≠ 0) : checkF l = lineErr (l.getD j default) := by
  have e : l.find? (fun x => !decide (lineErr x = 0)) = some (l.getD j default) := by
    rw [getD_eq' hj, List.find?_eq_some_iff_getElem]
    rw [getD_eq' hj] at he
    refine ⟨by simp [he], j, hj, rfl, fun i hi => ?_⟩
    have := hp i hi
    rw [getD_eq' (by omega)] at this
    simp [this]
  rw [checkF, e]
theorem checkF_lab {l : List Line} {j : Nat} (hp : ∀ i, i < l.length → lineErr (l.getD i default) = 0) (hj : j < l.length) (hb : labBad (cntM l) (l.getD j default) = true) : checkF l = 220 := by
  rw [checkF, find_none' hp]
  show (if l.any (labBad (cntM l)) = true then (220 : Int) else 0) = 220
  rw [if_pos]
  exact List.any_eq_true.2 ⟨_, getD_mem' hj, hb⟩
theorem checkF_ok {l : List Line} (hp : ∀ i, i < l.length → lineErr (l.getD i default) = 0) (hb : ∀ i, i < l.length → labBad (cntM l) (l.getD i default) = false) : checkF l = 0 := by
  rw [checkF, find_none' hp]
  show (if l.any (labBad (cntM l)) = true then (220 : Int) else 0) = 0
  rw [if_neg]
  intro h
  obtain ⟨x, hx, hq⟩ := List.any_eq_true.1 h
  obtain ⟨i, hi, rfl⟩ := List.mem_iff_getElem.1 hx
  have := hb i hi
  rw [getD_eq' hi] at this
  rw [this] at hq; cases hq
theorem checkF_zero {l : List Line} (h : checkF l = 0) : (∀ x ∈ l, lineErr x = 0) ∧ ∀ x ∈ l, labBad (cntM l) x = false := by
  unfold checkF at h
  split at h
  · rename_i x hx
    have := List.find?_some hx
    rw [h] at this; exact absurd this (by decide)
  · rename_i hx
    rw [List.find?_eq_none] at hx
    split at h
    · exact absurd h (by decide)
    · rename_i hb
      refine ⟨fun x hx1 => by simpa using hx x hx1, fun x hx1 => ?_⟩
      cases hq : labBad (cntM l) x
      · rfl
      · exact absurd (List.any_eq_true.2 ⟨x, hx1, hq⟩) hb

/-! ### sizes -/
def NL : Nat := 1099511627
def size0 (x : Line) : Nat :=
  if x.kind = 1 then (if validF x.ins = true then (encF x.ins).length else 0)
  else if x.kind = 3 ∨ x.kind = 4 then 2
  else if x.kind = 5 then 5
  else if x.kind = 6 then 7 else 0
def tgt0 (m : List (Int × Nat)) (x : Line) : Nat := if goesF x.kind = true then lookN x.l m else 0
def pre (sz : List Nat) (k : Nat) : Nat := (sz.take k).sum
def plF (sz : List Nat) : List Nat := (List.range (sz.length + 1)).map (pre sz)
def wayF (tg p : List Nat) (i : Nat) : Int := ((p.getD (tg.getD i 0) 0 : Nat) : Int) - ((p.getD (i + 1) 0 : Nat) : Int)
def outF (n : Int) : Bool := decide (n < -128) || decide (127 < n)
def jmpF (k : Int) : Bool := decide (k = 3) || decide (k = 4)
def newS (l : List Line) (tg p sz : List Nat) (i : Nat) : Nat :=
  if (jmpF (l.getD i default).kind && decide (sz.getD i 0 = 2) && outF (wayF tg p i)) = true then (if (l.getD i default).kind = 4 then 6 else 5) else sz.getD i 0
def roundF (l : List Line) (tg p sz : List Nat) : List Nat := (List.range sz.length).map (newS l tg p sz)
def growN (l : List Line) (tg : List Nat) : Nat → List Nat → List Nat
  | 0, sz => sz
  | f + 1, sz => if roundF l tg (plF sz) sz = sz then sz else growN l tg f (roundF l tg (plF sz) sz)
def sizesF (l : List Line) : List Nat := growN l (l.map (tgt0 (labM l))) (l.length + 1) (l.map size0)
theorem roundF_len (l : List Line) (tg p sz : List Nat) : (roundF l tg p sz).length = sz.length := by simp [roundF]
theorem plF_len (sz : List Nat) : (plF sz).length = sz.length + 1 := by simp [plF]
theorem plF_get (sz : List Nat) {k : Nat} (h : k ≤ sz.length) : (plF sz).getD k 0 = pre sz k := by
  simp [plF, show k < sz.length + 1 by omega]
theorem pre_succ (sz : List Nat) {k : Nat} (h : k < sz.length) : pre sz (k + 1) = pre sz k + sz.getD k 0 := by
  rw [pre, List.take_succ_eq_append_getElem h, List.sum_append, pre]
  simp [h]
theorem pre_le (sz : List Nat) (h : ∀ s ∈ sz, s ≤ 11) : ∀ k, pre sz k ≤ 11 * sz.length := by
  intro k
  have h1 : ∀ (q : List Nat), (∀ s ∈ q, s ≤ 11) → q.sum ≤ 11 * q.length := by
    intro q
    induction q with
    | nil => intro _; simp
    | cons a r ih =>
      intro hq
      have := ih (fun s hs => hq s (List.mem_cons_of_mem _ hs))
      have := hq a (List.mem_cons_self ..)
      simp only [List.sum_cons, List.length_cons]; omega
  have h2 := h1 (sz.take k) (fun s hs => h s (List.mem_of_mem_take hs))
  have h3 : (sz.take k).length ≤ sz.length := by rw [List.length_take]; omega
  unfold pre
  omega
theorem pre_mono (sz : List Nat) {a b : Nat} (h : a ≤ b) : pre sz a ≤ pre sz b := by
  obtain ⟨c, rfl⟩ := Nat.exists_eq_add_of_le h
  unfold pre
  rw [List.take_add, List.sum_append]
  omega
theorem range_getD (sz : List Nat) : (List.range sz.length).map (fun i => sz.getD i 0) = sz := by
  apply List.ext_getElem
  · simp
  · intro i h1 h2
    simp only [List.length_map, List.length_range] at h1
    simp [h1]
theorem count_round (g h : Nat → Nat) (hg : ∀ i, g i = h i ∨ (h i = 2 ∧ g i ≠ 2)) : ∀ L : List Nat, (L.map g).count 2 ≤ (L.map h).count 2 ∧ (L.map g ≠ L.map h → (L.map g).count 2 < (L.map h).count 2)
  | [] => ⟨Nat.le_refl _, fun q => absurd rfl q⟩
  | a :: L => by
    obtain ⟨h1, h2⟩ := count_round g h hg L
    rcases hg a with e | ⟨e1, e2⟩
    · rw [List.map_cons, List.map_cons, e]
      refine ⟨by simp only [List.count_cons]; omega, fun q => ?_⟩
      have := h2 (fun q2 => q (by rw [q2]))
      simp only [List.count_cons]; omega
    · rw [List.map_cons, List.map_cons, e1]
      have : (g a :: L.map g).count 2 = (L.map g).count 2 := by rw [List.count_cons]; simp [e2]
      have h3 : (2 :: L.map h).count 2 = (L.map h).count 2 + 1 := by simp
      exact ⟨by omega, fun _ => by omega⟩
theorem newS_or (l : List Line) (tg p sz : List Nat) (i : Nat) : newS l tg p sz i = sz.getD i 0 ∨ (sz.getD i 0 = 2 ∧ newS l tg p sz i ≠ 2) := by
  unfold newS
  split
  · rename_i h
    simp only [Bool.and_eq_true, decide_eq_true_eq] at h
    refine .inr ⟨h.1.2, ?_⟩
    split <;> decide
  · exact .inl rfl
theorem round_count (l : List Line) (tg p sz : List Nat) (h : roundF l tg p sz ≠ sz) : (roundF l tg p sz).count 2 < sz.count 2 := by
  have := (count_round (newS l tg p sz) (fun i => sz.getD i 0) (newS_or l tg p sz) (List.range sz.length)).2
  rw [range_getD] at this
  exact this h
theorem round_le (l : List Line) (tg p sz : List Nat) (h : ∀ s ∈ sz, s ≤ 11) : ∀ s ∈ roundF l tg p sz, s ≤ 11 := by
  intro s hs
  simp only [roundF, List.mem_map, List.mem_range] at hs
  obtain ⟨i, hi, rfl⟩ := hs
  unfold newS
  split
  · split <;> decide
  · have : sz.getD i 0 ∈ sz := by simp [hi]
    exact h _ this
theorem growN_fix (l : List Line) (tg : List Nat) : ∀ f sz, sz.count 2 < f → roundF l tg (plF (growN l tg f sz)) (growN l tg f sz) = growN l tg f sz
  | 0, _, h => absurd h (by omega)
  | f + 1, sz, h => by
    rw [growN]
    split
    · assumption
    · rename_i hne
      exact growN_fix l tg f _ (by have := round_count l tg (plF sz) sz hne; omega)
theorem growN_len (l : List Line) (tg : List Nat) : ∀ f sz, (growN l tg f sz).length = sz.length
  | 0, _ => rfl
  | f + 1, sz => by
    rw [growN]
    split
    · rfl
    · rw [growN_len l tg f, roundF_len]
theorem growN_le (l : List Line) (tg : List Nat) : ∀ f sz, (∀ s ∈ sz, s ≤ 11) → ∀ s ∈ growN l tg f sz, s ≤ 11
  | 0, _, h => h
  | f + 1, sz, h => by
    rw [growN]
    split
    · exact h
    · exact growN_le l tg f _ (round_le l tg _ sz h)

/-! ### what lines become -/
def insF (x : Line) (s : Nat) (way to : Int) : Option Ins :=
  if x.kind = 1 then some x.ins
  else if x.kind = 3 then some ⟨35, 0, 0, 0, if s = 2 then 1 else 4, way⟩
  else if x.kind = 4 then some ⟨36, 0, 0, x.cond, if s = 2 then 1 else 4, way⟩
  else if x.kind = 5 then some ⟨37, 0, 0, 0, 0, way⟩
  else if x.kind = 6 then some ⟨2, x.d, 0, 0, 0, to⟩
  else none
def insAt (l : List Line) (tg sz : List Nat) (at_ : Int) (i : Nat) : Option Ins :=
  insF (l.getD i default) (sz.getD i 0) (wayF tg (plF sz) i) (at_ + ((plF sz).getD (tg.getD i 0) 0 : Nat))
def tgF (l : List Line) : List Nat := l.map (tgt0 (labM l))
def farE (at_ : Int) (e : Nat) : Bool := decide (2147483647 < at_) || decide (2147483647 - at_ < (e : Int))
def resolveF (l : List Line) (at_ : Int) : Option (List Ins) × Int :=
  if checkF l ≠ 0 then (none, checkF l)
  else if farE at_ (pre (sizesF l) l.length) = true then (none, 221)
  else (some ((List.range l.length).filterMap (insAt l (tgF l) (sizesF l) at_)), 0)

/-! ### the layout in memory -/
def zu (n : Nat) : T := .v (.int .u64 (n : Int))
def zi (n : Nat) : T := .v (.int .i64 (n : Int))
def LB (b : Nat) (l : List Line) (A1 A2 : Option Addr) (sz tg : List Nat) : St :=
  [.box b 53 [linesT l, .v (.slice A1 l.length l.length), .v (.slice A2 l.length l.length)], .row A1 l.length l.length 78 1 (sz.map zu), .row A2 l.length l.length 3 1 (tg.map zi)]
def fillN (f : Line → Nat) (l : List Line) (j : Nat) : List Nat := (l.take j).map f ++ List.replicate (l.length - j) 0
theorem fill_len {f : Line → Nat} {l : List Line} {j : Nat} (h : j ≤ l.length) : (fillN f l j).length = l.length := by
  simp [fillN]; omega
theorem fill_zero (f : Line → Nat) (l : List Line) : fillN f l 0 = List.replicate l.length 0 := by simp [fillN]
theorem fill_all (f : Line → Nat) (l : List Line) : fillN f l l.length = l.map f := by simp [fillN]
theorem fill_set {f : Line → Nat} {l : List Line} {j v : Nat} (h : j < l.length) (hv : f (l.getD j default) = v) : (fillN f l j).set j v = fillN f l (j + 1) := by
  subst hv
  unfold fillN
  rw [List.set_append_right _ _ (by simp; omega), take_getD h, List.map_append, List.append_assoc]
  congr 1
  have e : j - ((l.take j).map f).length = 0 := by simp; omega
  rw [e, show l.length - j = (l.length - (j + 1)) + 1 by omega, List.replicate_succ]
  rfl
theorem fill_same {f : Line → Nat} {l : List Line} {j : Nat} (h : j < l.length) (hv : f (l.getD j default) = 0) : fillN f l j = fillN f l (j + 1) := by
  unfold fillN
  rw [take_getD h, List.map_append, List.append_assoc]
  congr 1
  rw [show l.length - j = (l.length - (j + 1)) + 1 by omega, List.replicate_succ, List.map_cons, hv]
  rfl
theorem fill_setU {f : Line → Nat} {l : List Line} {j v : Nat} (h : j < l.length) (hv : f (l.getD j default) = v) : ((fillN f l j).map zu).set (j * 1) (.v (.int .u64 (v : Int))) = (fillN f l (j + 1)).map zu := by
  rw [← fill_set h hv, List.map_set, Nat.mul_one]; rfl
theorem fill_setI {f : Line → Nat} {l : List Line} {j v : Nat} (h : j < l.length) (hv : f (l.getD j default) = v) : ((fillN f l j).map zi).set (j * 1) (.v (.int .i64 (v : Int))) = (fillN f l (j + 1)).map zi := by
  rw [← fill_set h hv, List.map_set, Nat.mul_one]; rfl
theorem flat_rep {n : Nat} {x : Value} : (List.replicate n (List.map T.v [x])).flatten = List.replicate n (T.v x) := by
  induction n with
  | zero => rfl
  | succ n ih => rw [List.replicate_succ, List.flatten_cons, ih]; rfl
theorem labM_take {l : List Line} {j : Nat} (h : j < l.length) : labM (l.take (j + 1)) = if (l.getD j default).kind = 2 then putA (l.getD j default).l j (labM (l.take j)) else labM (l.take j) := by
  rw [take_getD h, labM_snoc, List.length_take, Nat.min_eq_left (by omega)]
theorem memF_len (p q n : Int) : (memF p q n).length ≤ 6 := by
  unfold memF
  split <;> simp [immF, leBytes_length]
theorem iteLe {c : Prop} [Decidable c] {a b : List UInt8} (h1 : a.length ≤ 11) (h2 : b.length ≤ 11) : (if c then a else b).length ≤ 11 := by split <;> assumption
theorem encF_len (i : Ins) : (encF i).length ≤ 11 := by
  have h1 := memF_len i.d i.s i.imm
  have h2 := memF_len i.s i.d i.imm
  have h3 : (memoryF i).length ≤ 11 := by
    unfold memoryF
    repeat' split
    all_goals (simp only [List.length_cons] <;> omega)
  have h4 : (jumpF i).length ≤ 11 := by
    unfold jumpF
    repeat' split
    all_goals simp [immF, leBytes_length]
  have h5 : (farF i).length ≤ 11 := by
    unfold farF
    repeat' (first | apply iteLe | exact Nat.le_of_ble_eq_true rfl)
  unfold encF
  split
  · simp
  · simp [immF, leBytes_length]
  · simp
  · simp [immF, leBytes_length]
  · simp
  · split <;> simp [immF, leBytes_length]
  · exact h3
  · exact h4
  · exact h5
  all_goals simp
theorem valid_of {l : List Line} (h : checkF l = 0) {j : Nat} (hj : j < l.length) (hk : (l.getD j default).kind = 1) : validF (l.getD j default).ins = true := by
  have h1 := (checkF_zero h).1 _ (getD_mem' hj)
  unfold lineErr at h1
  split at h1
  · exact absurd h1 (by decide)
  split at h1
  · exact absurd h1 (by decide)
  · rename_i h2
    rw [decide_eq_true hk, Bool.true_and] at h2
    simpa using h2
theorem size0_le (x : Line) : size0 x ≤ 11 := by
  unfold size0
  have := encF_len x.ins
  repeat' split
  all_goals omega
theorem sizes0_le (l : List Line) : ∀ s ∈ l.map size0, s ≤ 11 := by
  intro s hs
  obtain ⟨x, _, rfl⟩ := List.mem_map.1 hs
  exact size0_le x
theorem len_zu {l : List Nat} : (l.map zu).length = l.length * 1 := by simp
theorem zu_get {l : List Nat} {j : Nat} (h : j < l.length) : (l.map zu)[j * 1]? = some (.v (.int .u64 ((l.getD j 0 : Nat) : Int))) := by simp [h, zu]
theorem zi_get {l : List Nat} {j : Nat} (h : j < l.length) : (l.map zi)[j * 1]? = some (.v (.int .i64 ((l.getD j 0 : Nat) : Int))) := by simp [h, zi]
end Go.Proofs.YtjndpakhmgapjaaDoor

namespace Go.Proofs.YtjndpakhmgapjaaDoor
open Go Go.RowKit
set_option linter.unusedSimpArgs false
set_option linter.unusedVariables false
set_option linter.unnecessarySimpa false
def plN (sz : List Nat) (j : Nat) : List Nat := (List.range (j + 1)).map (pre sz) ++ List.replicate (sz.length - j) 0
theorem plN_zero (sz : List Nat) : plN sz 0 = List.replicate (sz.length + 1) 0 := by
  simp [plN, pre, List.replicate_succ]
theorem plN_all (sz : List Nat) : plN sz sz.length = plF sz := by simp [plN, plF]
theorem plN_len {sz : List Nat} {j : Nat} (h : j ≤ sz.length) : (plN sz j).length = sz.length + 1 := by simp [plN]; omega
theorem plN_get {sz : List Nat} {j : Nat} : (plN sz j).getD j 0 = pre sz j := by
  rw [plN, List.getD_eq_getElem?_getD, List.getElem?_append_left (by simp)]
  simp
theorem plN_set {sz : List Nat} {j v : Nat} (h : j < sz.length) (hv : pre sz (j + 1) = v) : (plN sz j).set (j + 1) v = plN sz (j + 1) := by
  subst hv
  unfold plN
  rw [List.set_append_right _ _ (by simp)]
  rw [List.range_succ (n := j + 1), List.map_append, List.append_assoc]
  congr 1
  have e : j + 1 - ((List.range (j + 1)).map (pre sz)).length = 0 := by simp
  rw [e, show sz.length - j = (sz.length - (j + 1)) + 1 by omega, List.replicate_succ]
  rfl
theorem plN_setU {sz : List Nat} {j : Nat} {v : Int} (h : j < sz.length) (hv : v = (pre sz j : Int) + (sz.getD j 0 : Nat)) : ((plN sz j).map zu).set ((j + 1) * 1) (.v (.int .u64 v)) = (plN sz (j + 1)).map zu := by
  rw [← plN_set h (pre_succ sz h), List.map_set, Nat.mul_one, hv]
  rfl
theorem pre_bound {sz : List Nat} (h1 : ∀ s ∈ sz, s ≤ 11) (h2 : sz.length ≤ 1099511627) (k : Nat) : pre sz k ≤ 12094627897 := by
  have := pre_le sz h1 k
  omega
theorem getD_le {sz : List Nat} {n : Nat} (h : ∀ s ∈ sz, s ≤ n) (k : Nat) : sz.getD k 0 ≤ n := by
  rcases Nat.lt_or_ge k sz.length with hk | hk
  · rw [List.getD_eq_getElem?_getD, List.getElem?_eq_getElem hk]
    exact h _ (List.getElem_mem hk)
  · rw [List.getD_eq_getElem?_getD, List.getElem?_eq_none hk]
    exact Nat.zero_le _
theorem plF_bound {sz : List Nat} (h1 : ∀ s ∈ sz, s ≤ 11) (h2 : sz.length ≤ 1099511627) (k : Nat) : (plF sz).getD k 0 ≤ 12094627897 := by
  refine getD_le (fun s hs => ?_) k
  simp only [plF, List.mem_map] at hs
  obtain ⟨i, _, rfl⟩ := hs
  exact pre_bound h1 h2 i

def mixN (l : List Line) (tg p sz : List Nat) (j : Nat) : List Nat := (roundF l tg p sz).take j ++ sz.drop j
theorem mix_len {l : List Line} {tg p sz : List Nat} {j : Nat} (h : j ≤ sz.length) : (mixN l tg p sz j).length = sz.length := by
  simp [mixN, roundF_len]; omega
theorem mix_zero (l : List Line) (tg p sz : List Nat) : mixN l tg p sz 0 = sz := by simp [mixN]
theorem mix_all (l : List Line) (tg p sz : List Nat) : mixN l tg p sz sz.length = roundF l tg p sz := by
  simp [mixN, ← roundF_len l tg p sz]
theorem mix_get {l : List Line} {tg p sz : List Nat} {j : Nat} (h : j < sz.length) : (mixN l tg p sz j).getD j 0 = sz.getD j 0 := by
  have e : ((roundF l tg p sz).take j).length = j := by rw [List.length_take, roundF_len]; omega
  rw [mixN, List.getD_eq_getElem?_getD, List.getElem?_append_right (by omega), e, List.getElem?_drop, Nat.sub_self, Nat.add_zero, ← List.getD_eq_getElem?_getD]
theorem mix_succ {l : List Line} {tg p sz : List Nat} {j : Nat} (h : j < sz.length) : (mixN l tg p sz j).set j (newS l tg p sz j) = mixN l tg p sz (j + 1) := by
  have e : ((roundF l tg p sz).take j).length = j := by rw [List.length_take, roundF_len]; omega
  have e2 : (roundF l tg p sz)[j]? = some (newS l tg p sz j) := by simp [roundF, h]
  unfold mixN
  rw [List.set_append_right _ _ (by omega), e, Nat.sub_self, List.drop_eq_getElem_cons h, List.set_cons_zero, List.take_add_one, e2]
  simp
theorem mix_setU {l : List Line} {tg p sz : List Nat} {j v : Nat} (h : j < sz.length) (hv : newS l tg p sz j = v) : ((mixN l tg p sz j).map zu).set (j * 1) (.v (.int .u64 (v : Int))) = (mixN l tg p sz (j + 1)).map zu := by
  rw [← mix_succ h, hv, List.map_set, Nat.mul_one]; rfl
theorem mix_same {l : List Line} {tg p sz : List Nat} {j : Nat} (h : j < sz.length) (hv : newS l tg p sz j = sz.getD j 0) : mixN l tg p sz (j + 1) = mixN l tg p sz j := by
  rw [← mix_succ h, hv]
  apply List.ext_getElem?
  intro i
  rw [List.getElem?_set]
  split
  · rename_i hi
    subst hi
    have := mix_get (l := l) (tg := tg) (p := p) h
    rw [if_pos (by rw [mix_len (by omega)]; exact h), ← this]
    rw [List.getD_eq_getElem?_getD, List.getElem?_eq_getElem (by rw [mix_len (by omega)]; exact h)]
    rfl
  · rfl
theorem mix_ne {l : List Line} {tg p sz : List Nat} {j : Nat} (h : j < sz.length) (hv : newS l tg p sz j ≠ sz.getD j 0) : mixN l tg p sz (j + 1) ≠ sz := by
  intro q
  rw [← mix_succ h] at q
  apply hv
  have := congrArg (fun z => z.getD j 0) q
  simp only [List.getD_eq_getElem?_getD, List.getElem?_set_self (show j < (mixN l tg p sz j).length by rw [mix_len (by omega)]; exact h)] at this ⊢
  exact this
theorem mix_le {l : List Line} {tg p sz : List Nat} {j : Nat} (h : ∀ s ∈ sz, s ≤ 11) : ∀ s ∈ mixN l tg p sz j, s ≤ 11 := by
  intro s hs
  simp only [mixN, List.mem_append] at hs
  rcases hs with hs | hs
  · exact round_le l tg p sz h s (List.mem_of_mem_take hs)
  · exact h s (List.mem_of_mem_drop hs)
theorem newS_no {l : List Line} {tg p sz : List Nat} {i : Nat} (h : ¬ (((l.getD i default).kind = 3 ∨ (l.getD i default).kind = 4) ∧ sz.getD i 0 = 2)) : newS l tg p sz i = sz.getD i 0 := by
  unfold newS
  rw [if_neg]
  intro q
  simp only [jmpF, Bool.and_eq_true, Bool.or_eq_true, decide_eq_true_eq] at q
  exact h q.1
theorem newS_in {l : List Line} {tg p sz : List Nat} {i : Nat} (h : outF (wayF tg p i) = false) : newS l tg p sz i = sz.getD i 0 := by
  unfold newS
  rw [if_neg]
  rw [h, Bool.and_false]
  decide
theorem newS_out {l : List Line} {tg p sz : List Nat} {i : Nat} (h0 : (l.getD i default).kind = 3 ∨ (l.getD i default).kind = 4) (h1 : sz.getD i 0 = 2) (h : outF (wayF tg p i) = true) : newS l tg p sz i = if (l.getD i default).kind = 4 then 6 else 5 := by
  unfold newS
  rw [if_pos]
  simp only [jmpF, Bool.and_eq_true, Bool.or_eq_true, decide_eq_true_eq]
  exact ⟨⟨h0, h1⟩, h⟩
theorem grow_exit {l : List Line} {tg sz r : List Nat} {f : Nat} (hf : sz.count 2 < f) (e : growN l tg f sz = r) (h : roundF l tg (plF sz) sz = sz) : r = sz := by
  obtain ⟨f, rfl⟩ : ∃ g, f = g + 1 := ⟨f - 1, by omega⟩
  rw [growN, if_pos h] at e
  exact e.symm
theorem grow_go {l : List Line} {tg sz r : List Nat} {f : Nat} (hf : sz.count 2 < f) (e : growN l tg f sz = r) (h : roundF l tg (plF sz) sz ≠ sz) : ∃ g, (roundF l tg (plF sz) sz).count 2 < g ∧ growN l tg g (roundF l tg (plF sz) sz) = r := by
  obtain ⟨f, rfl⟩ : ∃ g, f = g + 1 := ⟨f - 1, by omega⟩
  rw [growN, if_neg h] at e
  have := round_count l tg (plF sz) sz h
  exact ⟨f, by omega, e⟩
end Go.Proofs.YtjndpakhmgapjaaDoor

namespace Go.Proofs.YtjndpakhmgapjaaDoor
open Go Go.RowKit
set_option linter.unusedSimpArgs false
set_option linter.unusedVariables false
set_option linter.unnecessarySimpa false
def laidE (l : List Line) (at_ : Int) : Int := if checkF l ≠ 0 then checkF l else if farE at_ (pre (sizesF l) l.length) = true then 221 else 0
def outN (l : List Line) (tg sz : List Nat) (at_ : Int) (j : Nat) : List Ins := (List.range j).filterMap (insAt l tg sz at_)
theorem outN_some {l : List Line} {tg sz : List Nat} {at_ : Int} {j : Nat} {i : Ins} (h : insAt l tg sz at_ j = some i) : outN l tg sz at_ (j + 1) = outN l tg sz at_ j ++ [i] := by
  simp [outN, List.range_succ, h]
theorem outN_none {l : List Line} {tg sz : List Nat} {at_ : Int} {j : Nat} (h : insAt l tg sz at_ j = none) : outN l tg sz at_ (j + 1) = outN l tg sz at_ j := by
  simp [outN, List.range_succ, h]
theorem outN_len (l : List Line) (tg sz : List Nat) (at_ : Int) (j : Nat) : (outN l tg sz at_ j).length ≤ j := by
  have := List.length_filterMap_le (insAt l tg sz at_) (List.range j)
  simpa [outN] using this
theorem outN_cells {l : List Line} {tg sz : List Nat} {at_ : Int} {j : Nat} {i : Ins} (h : insAt l tg sz at_ j = some i) : (outN l tg sz at_ (j + 1)).length = (outN l tg sz at_ j).length + 1 ∧ (outN l tg sz at_ (j + 1)).flatMap insCells = (outN l tg sz at_ j).flatMap insCells ++ insCells i := by
  rw [outN_some h]
  simp
theorem laidE_at {l : List Line} {at_ : Int} (h : laidE l at_ = 0) : checkF l = 0 ∧ at_ ≤ 2147483647 ∧ (pre (sizesF l) l.length : Int) ≤ 2147483647 - at_ := by
  unfold laidE at h
  split at h
  · omega
  · rename_i hc
    split at h
    · cases h
    · rename_i hf
      simp only [farE, Bool.or_eq_true, decide_eq_true_eq] at hf
      omega
theorem sizesF_len (l : List Line) : (sizesF l).length = l.length := by rw [sizesF, growN_len, List.length_map]
theorem sizesF_le (l : List Line) : ∀ s ∈ sizesF l, s ≤ 11 := growN_le _ _ _ _ (sizes0_le l)
theorem tgF_len (l : List Line) : (tgF l).length = l.length := by simp [tgF]
theorem tgF_le (l : List Line) (k : Nat) : (tgF l).getD k 0 ≤ l.length := by
  refine getD_le (fun t ht => ?_) k
  obtain ⟨x, _, rfl⟩ := List.mem_map.1 ht
  unfold tgt0
  split
  · exact lookN_lt _ _
  · exact Nat.zero_le _
def insL (l : List Line) (at_ : Int) : List Ins := outN l (tgF l) (sizesF l) at_ l.length
theorem insL_len (l : List Line) (at_ : Int) : (insL l at_).length ≤ l.length := outN_len _ _ _ _ _
def encT (i : Ins) : T := if validF i = true then u8s (encF i) else ofConst (.slice none 0 0)
def encE (i : Ins) : Int := if validF i = true then 0 else 200
def allB (l : List Ins) : List UInt8 := if l.all validF = true then l.flatMap encF else []
def resL (l : List Line) (at_ : Int) : List Ins := if laidE l at_ = 0 then insL l at_ else []
theorem resL_ok {l : List Line} {at_ : Int} (h : laidE l at_ = 0) : resL l at_ = insL l at_ := if_pos h
theorem resL_no {l : List Line} {at_ : Int} (h : ¬ laidE l at_ = 0) : resL l at_ = [] := if_neg h
theorem resL_len (l : List Line) (at_ : Int) : (resL l at_).length ≤ l.length := by
  unfold resL
  split
  · exact insL_len l at_
  · exact Nat.zero_le _
def allE (l : List Ins) : Int := if l.all validF = true then 0 else 200
def asmE (l : List Line) (at_ : Int) : Int := if laidE l at_ ≠ 0 then laidE l at_ else allE (resL l at_)
def asmB (l : List Line) (at_ : Int) : List UInt8 := allB (resL l at_)
theorem all_bad {l : List Ins} {j : Nat} (hj : j < l.length) (h : ¬ validF (l.getD j default) = true) : ¬ l.all validF = true := fun q => h (List.all_eq_true.1 q _ (getD_mem' hj))
theorem all_good {l : List Ins} (h : ∀ i, i < l.length → validF (l.getD i default) = true) : l.all validF = true := by
  rw [List.all_eq_true]
  intro x hx
  obtain ⟨i, hi, rfl⟩ := List.mem_iff_getElem.1 hx
  have := h i hi
  rwa [getD_eq' hi] at this
theorem enc_le (l : List Ins) : (l.flatMap encF).length ≤ 11 * l.length := by
  induction l with
  | nil => simp
  | cons a r ih => have := encF_len a; simp only [List.flatMap_cons, List.length_append, List.length_cons]; omega
theorem enc_step {l : List Ins} {j : Nat} (hj : j < l.length) : ((l.take (j + 1)).flatMap encF).length = ((l.take j).flatMap encF).length + (encF (l.getD j default)).length ∧ ((l.take (j + 1)).flatMap encF).map u8 = ((l.take j).flatMap encF).map u8 ++ (encF (l.getD j default)).map u8 := by
  rw [take_flat hj]
  simp
theorem ins_eq (i k : Ins) : eqCells (insVals i) (insVals k) [(0, .i), (1, .i), (2, .i), (3, .i), (4, .i), (5, .i)] = some (decide (i = k)) := by
  cases i; cases k
  simp [eqCells, insVals, eqCell, Ins.mk.injEq, Bool.decide_and, Bool.and_assoc]
theorem same_step {a b : List Ins} {j : Nat} (hl : a.length = b.length) (hj : j < a.length) (h : a.take j = b.take j) (he : a.getD j default = b.getD j default) : a.take (j + 1) = b.take (j + 1) := by
  rw [take_getD hj, take_getD (by omega), h, he]
theorem same_no {a b : List Ins} {j : Nat} (he : ¬ a.getD j default = b.getD j default) : ¬ a = b := fun q => he (by rw [q])
end Go.Proofs.YtjndpakhmgapjaaDoor

namespace Go.Proofs.YtjndpakhmgapjaaDoor
open Go Go.RowKit Go.Lib
set_option linter.unusedSimpArgs false
set_option linter.unusedVariables false
set_option linter.unnecessarySimpa false
def valD (l : List UInt8) : Nat := l.foldl (fun a c => 10 * a + (c.toNat - 48)) 0
theorem digit_val {d : Nat} (h : d < 10) : (UInt8.ofNat (48 + d)).toNat = 48 + d := by
  rw [UInt8.toNat_ofNat']
  omega
theorem dec_val (u : Nat) : valD (decDigits u) = u := by
  induction u using Nat.strongRecOn with
  | _ u ih =>
    rw [decDigits]
    split
    · rename_i h
      unfold valD
      rw [List.foldl_cons, List.foldl_nil, digit_val h]
      omega
    · rename_i h
      have hi := ih (u / 10) (by omega)
      unfold valD at hi ⊢
      rw [List.foldl_append, hi, List.foldl_cons, List.foldl_nil, digit_val (Nat.mod_lt _ (by decide))]
      omega
theorem dec_range (u : Nat) : ∀ c ∈ decDigits u, 48 ≤ c.toNat ∧ c.toNat ≤ 57 := by
  induction u using Nat.strongRecOn with
  | _ u ih =>
    rw [decDigits]
    split
    · rename_i h
      intro c hc
      rw [List.mem_singleton] at hc
      subst hc
      rw [digit_val h]
      omega
    · rename_i h
      intro c hc
      rcases List.mem_append.1 hc with hc | hc
      · exact ih (u / 10) (by omega) c hc
      · rw [List.mem_singleton] at hc
        subst hc
        have := Nat.mod_lt u (show 0 < 10 by decide)
        rw [digit_val this]
        omega
theorem dec_inj {u v : Nat} (h : decDigits u = decDigits v) : u = v := by
  rw [← dec_val u, ← dec_val v, h]
theorem dec_ne45 (u : Nat) (l : List UInt8) : decDigits u ≠ 45 :: l := fun h => by
  have := dec_range u 45 (by rw [h]; exact List.mem_cons_self ..)
  exact absurd this.1 (by decide)
theorem itoa_inj {m n : Int} (h : itoa m = itoa n) : m = n := by
  unfold itoa at h
  split at h <;> split at h
  · have := dec_inj (List.cons.inj h).2
    omega
  · exact absurd h.symm (dec_ne45 _ _)
  · exact absurd h (dec_ne45 _ _)
  · have := dec_inj h
    omega
theorem itoa_32 (n : Int) : (32 : UInt8) ∉ itoa n := by
  have hd : ∀ u, (32 : UInt8) ∉ decDigits u := fun u h => absurd (dec_range u 32 h).1 (by decide)
  unfold itoa
  split
  · intro h
    rcases List.mem_cons.1 h with h | h
    · exact absurd h (by decide)
    · exact hd _ h
  · exact hd _
/-- Words with a blank ahead of each but the first. -/
def joinT (w : List UInt8) : List (List UInt8) → List UInt8
  | [] => w
  | x :: r => w ++ 32 :: joinT x r
theorem word_split : ∀ {w w' r r' : List UInt8}, (32 : UInt8) ∉ w → (32 : UInt8) ∉ w' → w ++ 32 :: r = w' ++ 32 :: r' → w = w' ∧ r = r'
  | [], [], r, r', _, _, h => ⟨rfl, (List.cons.inj h).2⟩
  | [], c :: w', r, r', _, h', h => absurd ((List.cons.inj h).1 ▸ List.mem_cons_self ..) h'
  | c :: w, [], r, r', h1, _, h => absurd ((List.cons.inj h).1 ▸ List.mem_cons_self ..) h1
  | c :: w, c' :: w', r, r', h1, h', h => by
    obtain ⟨e1, e2⟩ := List.cons.inj h
    obtain ⟨e3, e4⟩ := word_split (fun q => h1 (List.mem_cons_of_mem _ q)) (fun q => h' (List.mem_cons_of_mem _ q)) e2
    exact ⟨by rw [e1, e3], e4⟩
theorem join_inj : ∀ {l l' : List (List UInt8)} {w w' : List UInt8}, (∀ x ∈ w :: l, (32 : UInt8) ∉ x) → (∀ x ∈ w' :: l', (32 : UInt8) ∉ x) → joinT w l = joinT w' l' → w = w' ∧ l = l'
  | [], [], w, w', _, _, h => ⟨h, rfl⟩
  | [], x :: r, w, w', h1, h2, h => absurd (show (32 : UInt8) ∈ w by rw [show w = w' ++ 32 :: joinT x r from h]; simp) (h1 w (List.mem_cons_self ..))
  | x :: r, [], w, w', h1, h2, h => absurd (show (32 : UInt8) ∈ w' by rw [← show w ++ 32 :: joinT x r = w' from h]; simp) (h2 w' (List.mem_cons_self ..))
  | x :: r, x' :: r', w, w', h1, h2, h => by
    obtain ⟨e1, e2⟩ := word_split (h1 w (List.mem_cons_self ..)) (h2 w' (List.mem_cons_self ..)) h
    obtain ⟨e3, e4⟩ := join_inj (fun y hy => h1 y (List.mem_cons_of_mem _ hy)) (fun y hy => h2 y (List.mem_cons_of_mem _ hy)) e2
    exact ⟨e1, by rw [e3, e4]⟩
theorem joinT_snoc : ∀ (w : List UInt8) (l : List (List UInt8)) (x : List UInt8), joinT w (l ++ [x]) = joinT w l ++ 32 :: x
  | w, [], x => rfl
  | w, y :: r, x => by
    show w ++ 32 :: joinT y (r ++ [x]) = (w ++ 32 :: joinT y r) ++ 32 :: x
    rw [joinT_snoc y r x, List.append_assoc]
    rfl
def putG (f has n : Int) (s : List UInt8) : List UInt8 := if putOn f has = true then s ++ (32 :: itoa n) else s
def textB (i : Ins) : List UInt8 := putG (fieldsF i.kind).1 16 i.size (putG (fieldsF i.kind).1 8 i.cond (putG (fieldsF i.kind).1 4 i.imm (putG (fieldsF i.kind).1 2 i.s (putG (fieldsF i.kind).1 1 i.d (wordT i.kind)))))
def textF (i : Ins) : List UInt8 := if validF i = true then textB i else []
def numG (f has n : Int) : List (List UInt8) := if putOn f has = true then [itoa n] else []
theorem putG_join (f has n : Int) (w : List UInt8) (l : List (List UInt8)) : putG f has n (joinT w l) = joinT w (l ++ numG f has n) := by
  unfold putG numG
  split
  · rw [joinT_snoc]
  · rw [List.append_nil]
theorem textB_join (i : Ins) : textB i = joinT (wordT i.kind) (((((([] ++ numG (fieldsF i.kind).1 1 i.d) ++ numG (fieldsF i.kind).1 2 i.s)) ++ numG (fieldsF i.kind).1 4 i.imm) ++ numG (fieldsF i.kind).1 8 i.cond) ++ numG (fieldsF i.kind).1 16 i.size) := by
  unfold textB
  have h := putG_join (fieldsF i.kind).1 1 i.d (wordT i.kind) []
  rw [show joinT (wordT i.kind) [] = wordT i.kind from rfl] at h
  rw [h, putG_join, putG_join, putG_join, putG_join]
theorem numG_32 (f has n : Int) : ∀ x ∈ numG f has n, (32 : UInt8) ∉ x := by
  unfold numG
  split
  · intro x hx
    rw [List.mem_singleton] at hx
    subst hx
    exact itoa_32 n
  · intro x hx
    cases hx
theorem words_32 : ∀ x ∈ wordsL, (32 : UInt8) ∉ x := by decide +kernel
theorem wordT_32 (k : Int) : (32 : UInt8) ∉ wordT k := by
  unfold wordT
  rcases Nat.lt_or_ge (k.toNat - 1) wordsL.length with h | h
  · refine words_32 _ ?_
    rw [List.getD_eq_getElem?_getD, List.getElem?_eq_getElem h]
    exact List.getElem_mem h
  · rw [List.getD_eq_getElem?_getD, List.getElem?_eq_none h]
    exact fun q => by cases q
theorem words_inj : ∀ a b : Fin 52, wordsL.getD a.val [] = wordsL.getD b.val [] → a = b := by decide +kernel
theorem wordT_inj {j k : Int} (hj : 1 ≤ j ∧ j ≤ 52) (hk : 1 ≤ k ∧ k ≤ 52) (h : wordT j = wordT k) : j = k := by
  have := words_inj ⟨j.toNat - 1, by omega⟩ ⟨k.toNat - 1, by omega⟩ h
  have := congrArg Fin.val this
  dsimp only at this
  omega
theorem numG_len (f has n m : Int) : (numG f has n).length = (numG f has m).length := by
  unfold numG
  split <;> rfl
theorem numG_inj {f has n m : Int} (hn : noneF f has n = true) (hm : noneF f has m = true) (h : numG f has n = numG f has m) : n = m := by
  unfold numG at h
  split at h
  · rw [List.cons.injEq] at h
    exact itoa_inj h.1
  · rename_i hp
    unfold putOn at hp
    unfold noneF at hn hm
    rw [Bool.or_eq_true, decide_eq_true_eq] at hn hm
    rw [hn.resolve_left hp, hm.resolve_left hp]
theorem valid_none {i : Ins} (h : validF i = true) : noneF (fieldsF i.kind).1 1 i.d = true ∧ noneF (fieldsF i.kind).1 2 i.s = true ∧ noneF (fieldsF i.kind).1 4 i.imm = true ∧ noneF (fieldsF i.kind).1 8 i.cond = true ∧ noneF (fieldsF i.kind).1 16 i.size = true := by
  unfold validF at h
  split at h
  · cases h
  · simp only [Bool.and_eq_true] at h
    exact ⟨h.1.1.1.1.1, h.1.1.1.1.2, h.1.1.1.2, h.1.1.2, h.1.2⟩
theorem text_inj {i j : Ins} (hi : validF i = true) (hj : validF j = true) (h : textF i = textF j) : i = j := by
  rw [textF, textF, if_pos hi, if_pos hj, textB_join, textB_join] at h
  have h32 : ∀ i : Ins, ∀ x ∈ wordT i.kind :: (((((([] ++ numG (fieldsF i.kind).1 1 i.d) ++ numG (fieldsF i.kind).1 2 i.s)) ++ numG (fieldsF i.kind).1 4 i.imm) ++ numG (fieldsF i.kind).1 8 i.cond) ++ numG (fieldsF i.kind).1 16 i.size), (32 : UInt8) ∉ x := fun i x hx => by
    simp only [List.mem_cons, List.mem_append, List.nil_append] at hx
    rcases hx with rfl | (((hx | hx) | hx) | hx) | hx
    · exact wordT_32 _
    all_goals exact numG_32 _ _ _ x hx
  obtain ⟨e1, e2⟩ := join_inj (h32 i) (h32 j) h
  have ek := wordT_inj (validF_regs hi).1 (validF_regs hj).1 e1
  obtain ⟨a1, a2, a3, a4, a5⟩ := valid_none hi
  obtain ⟨b1, b2, b3, b4, b5⟩ := valid_none hj
  rw [ek] at e2 a1 a2 a3 a4 a5
  simp only [List.nil_append] at e2
  obtain ⟨e3, e5⟩ := List.append_inj' e2 (numG_len _ _ _ _)
  obtain ⟨e3, e4⟩ := List.append_inj' e3 (numG_len _ _ _ _)
  obtain ⟨e3, e6⟩ := List.append_inj' e3 (numG_len _ _ _ _)
  obtain ⟨e3, e7⟩ := List.append_inj' e3 (numG_len _ _ _ _)
  have f1 := numG_inj a1 b1 e3
  have f2 := numG_inj a2 b2 e7
  have f3 := numG_inj a3 b3 e6
  have f4 := numG_inj a4 b4 e4
  have f5 := numG_inj a5 b5 e5
  cases i; cases j
  simp only at ek f1 f2 f3 f4 f5
  subst ek; subst f1; subst f2; subst f3; subst f4; subst f5
  rfl
theorem wordT_len (k : Int) : (wordT k).length ≤ 10 := by
  have h : ∀ x ∈ wordsL, x.length ≤ 10 := by decide +kernel
  unfold wordT
  rcases Nat.lt_or_ge (k.toNat - 1) wordsL.length with hk | hk
  · refine h _ ?_
    rw [List.getD_eq_getElem?_getD, List.getElem?_eq_getElem hk]
    exact List.getElem_mem hk
  · rw [List.getD_eq_getElem?_getD, List.getElem?_eq_none hk]
    exact Nat.zero_le _
theorem encE_valid {i : Ins} (h : encE i = 0) : validF i = true := by
  rw [encE] at h
  by_cases q : validF i = true
  · exact q
  · rw [if_neg q] at h
    exact absurd h (by decide)
theorem putG_le (f has n : Int) (s : List UInt8) (h : I64 n) : (putG f has n s).length ≤ s.length + 22 := by
  have := itoa_length_le n h.1 h.2
  unfold putG
  split
  · rw [List.length_append, List.length_cons]; omega
  · omega
end Go.Proofs.YtjndpakhmgapjaaDoor

namespace Go.Proofs.YtjndpakhmgapjaaDoor
open Go Go.RowKit Go.Shelf
set_option linter.unusedVariables false
def laysM173_ren : Go.Shelf.Ren := ⟨fun | 173 => 41 | 246 => 56 | 283 => 68 | 284 => 69 | 285 => 70 | 286 => 71 | 129 => 80 | 317 => 79 | 318 => 81 | 319 => 82 | 320 => 83 | 337 => 84 | 338 => 85 | n => n, fun | 2 => 2 | 3 => 3 | 9 => 9 | 4 => 4 | 171 => 93 | 0 => 0 | 53 => 78 | 37 => 24 | 5 => 5 | 173 => 96 | 212 => 104 | 51 => 105 | 20 => 20 | 213 => 106 | 46 => 79 | 232 => 110 | 233 => 111 | n => n, fun | 17 => 0 | 18 => 1 | 19 => 2 | n => n⟩
theorem laysM173 : Go.Proofs.LaysM.n173 Tryd.prog laysM173_ren := {
  mixed := by kernel_rfl
  f129 := Tryd.func80.trans (congrArg some (by kernel_rfl))
  f173 := Tryd.func41.trans (congrArg some (by kernel_rfl))
  f246 := Tryd.func56.trans (congrArg some (by kernel_rfl))
  f283 := Tryd.func68.trans (congrArg some (by kernel_rfl))
  f284 := Tryd.func69.trans (congrArg some (by kernel_rfl))
  f285 := Tryd.func70.trans (congrArg some (by kernel_rfl))
  f286 := Tryd.func71.trans (congrArg some (by kernel_rfl))
  f317 := Tryd.func79.trans (congrArg some (by kernel_rfl))
  f318 := Tryd.func81.trans (congrArg some (by kernel_rfl))
  f319 := Tryd.func82.trans (congrArg some (by kernel_rfl))
  f320 := Tryd.func83.trans (congrArg some (by kernel_rfl))
  f337 := Tryd.func84.trans (congrArg some (by kernel_rfl))
  f338 := Tryd.func85.trans (congrArg some (by kernel_rfl))
  t0 := Tryd.underlying0
  a0 := Tryd.isAgg0
  z0 := Tryd.sizeOf0
  v0 := Tryd.zeroValue0
  t2 := Tryd.underlying2
  a2 := Tryd.isAgg2
  z2 := Tryd.sizeOf2
  v2 := Tryd.zeroValue2
  t3 := Tryd.underlying3
  a3 := Tryd.isAgg3
  z3 := Tryd.sizeOf3
  v3 := Tryd.zeroValue3
  t4 := Tryd.underlying4
  a4 := Tryd.isAgg4
  z4 := Tryd.sizeOf4
  v4 := Tryd.zeroValue4
  t5 := Tryd.underlying5
  a5 := Tryd.isAgg5
  z5 := Tryd.sizeOf5
  v5 := Tryd.zeroValue5
  t9 := Tryd.underlying9
  a9 := Tryd.isAgg9
  z9 := Tryd.sizeOf9
  v9 := Tryd.zeroValue9
  t20 := Tryd.underlying20
  a20 := Tryd.isAgg20
  z20 := Tryd.sizeOf20
  v20 := Tryd.zeroValue20
  t37 := Tryd.underlying24
  a37 := Tryd.isAgg24
  z37 := Tryd.sizeOf24
  v37 := Tryd.zeroValue24
  t46 := Tryd.underlying79
  a46 := Tryd.isAgg79
  z46 := Tryd.sizeOf79
  v46 := Tryd.zeroValue79
  t51 := Tryd.underlying105
  a51 := Tryd.isAgg105
  z51 := Tryd.sizeOf105
  v51 := Tryd.zeroValue105
  t53 := Tryd.underlying78
  a53 := Tryd.isAgg78
  z53 := Tryd.sizeOf78
  v53 := Tryd.zeroValue78
  t171 := Tryd.underlying93
  a171 := Tryd.isAgg93
  z171 := Tryd.sizeOf93
  v171 := Tryd.zeroValue93
  t173 := Tryd.underlying96
  a173 := Tryd.isAgg96
  z173 := Tryd.sizeOf96
  v173 := Tryd.zeroValue96
  t212 := Tryd.underlying104
  a212 := Tryd.isAgg104
  z212 := Tryd.sizeOf104
  v212 := Tryd.zeroValue104
  t213 := Tryd.underlying106
  a213 := Tryd.isAgg106
  z213 := Tryd.sizeOf106
  t232 := Tryd.underlying110
  a232 := Tryd.isAgg110
  z232 := Tryd.sizeOf110
  v232 := Tryd.zeroValue110
  t233 := Tryd.underlying111
  a233 := Tryd.isAgg111
  z233 := Tryd.sizeOf111
  v233 := Tryd.zeroValue111
  g17 := by kernel_rfl
  g18 := by kernel_rfl
  g19 := by kernel_rfl
  i0 := by kernel_rfl
  i2 := by kernel_rfl
  i3 := by kernel_rfl
  i4 := by kernel_rfl
  i5 := by kernel_rfl
  i9 := by kernel_rfl
  i20 := by kernel_rfl
  i37 := by kernel_rfl
  i46 := by kernel_rfl
  i51 := by kernel_rfl
  i53 := by kernel_rfl
  i171 := by kernel_rfl
  i173 := by kernel_rfl
  i212 := by kernel_rfl
  i232 := by kernel_rfl
  i233 := by kernel_rfl
  m17 := by kernel_rfl
  m18 := by kernel_rfl
  m19 := by kernel_rfl }
def tabG : Gv := ⟨0, (Lib.pow10Tab.map fun z => Value.int .u64 z).toArray⟩
theorem tab_named : Tryd.prog.globalNamed "internal/strconv.uint64pow10" = some 0 := by kernel_rfl
theorem tab_is {w : World} (h : tabG.is w) : Lib.TabIs Tryd.prog w "internal/strconv.uint64pow10" .u64 Lib.pow10Tab := by
  obtain ⟨ty, fr, e⟩ := h
  unfold Lib.TabIs World.var?
  rw [tab_named, Option.bind_some, show w.heap[0]? = some (.cells tabG.cs ty fr) from e]
  rfl
theorem tab_of {w : World} (h : Lib.TabIs Tryd.prog w "internal/strconv.uint64pow10" .u64 Lib.pow10Tab) : tabG.is w := by
  unfold Lib.TabIs World.var? at h
  rw [tab_named, Option.bind_some] at h
  split at h
  · rename_i cs ty fr e
    rw [Option.some.injEq] at h
    exact ⟨ty, fr, by rw [← show cs = tabG.cs from h]; exact e⟩
  · cases h
theorem formatInt41G (n : Int) (h0 : -9223372036854775808 ≤ n ∧ n ≤ 9223372036854775807) : ACallsG Tryd.prog tabG 41 [.v (.int .i64 n), .v (.int .i64 10)] [] (fun t_ S => t_ = sv (Lib.itoa n)) := by
  intro X w args hG _ hX _ _ hl ha
  obtain ⟨u, v, rfl⟩ : ∃ u v, args = [u, v] := by
    match args, hl with
    | [u, v], _ => exact ⟨u, v, rfl⟩
  have h1 := (ha 0 _ u rfl rfl).v_inv
  have h2 := (ha 1 _ v rfl rfl).v_inv
  subst h1; subst h2
  refine (Any.strconv_FormatInt_10 laysM173 n h0.1 h0.2 w (tab_is hG)).mono ?_
  rintro e w' ⟨rfl, k, os, rfl⟩
  refine ⟨_, _, [], rfl, ⟨rfl, rfl, rfl, ?_, fun j hj _ => ?_⟩, by simp [M], fun b hb => (by simp [M] at hb), fun e he => (by cases he), .v _, rfl⟩
  · show w.heap.size ≤ ((w.drewN k).heap ++ os).size
    rw [Array.size_append]
    exact Nat.le_add_right _ _
  · show ((w.drewN k).heap ++ os)[j]? = w.heap[j]?
    exact Array.getElem?_append_left hj
end Go.Proofs.YtjndpakhmgapjaaDoor

namespace Go.Proofs.YtjndpakhmgapjaaDoor
open Go Go.RowKit
set_option linter.unusedVariables false
set_option linter.unnecessarySimpa false
set_option linter.unusedSimpArgs false

theorem encode19q (i : Ins) : ACalls Tryd.prog 11 [insT i] [] (fun t_ S => t_ = .tup [encT i, .v (.int .i64 (encE i))]) := by
  have h : (fun t_ S => t_ = if validF i = true then .tup [u8s (encF i), .v (.int .i64 0)] else .tup [ofConst (.slice none 0 0), .v (.int .i64 200)]) = (fun (t_ : T) (S : St) => t_ = .tup [encT i, .v (.int .i64 (encE i))]) := by
    funext t S
    unfold encT encE
    split <;> rfl
  rw [← h]
  exact encode19 i
set_option maxHeartbeats 400000 in
theorem put40G (has n f : Int) (s : List UInt8) (b3 b5 : Nat) (hn : I64 n) (hl : s.length ≤ 1000) :
    ACallsG Tryd.prog tabG 40 [.v (.int .i64 has), .v (.int .i64 n), .v (.pointer (some ⟨b3, 0, none⟩)), .v (.pointer (some ⟨b5, 0, none⟩))] [.box b3 3 [.v (.int .i64 f)], .box b5 9 [sv s]] (fun t_ S => S = [.box b3 3 [.v (.int .i64 f)], .box b5 9 [sv (putG f has n s)]]) := by
  refine ACallsG.intro Tryd.func40 rfl Tryd.ntmps40 (Nat.le_of_ble_eq_true rfl) rfl fun X w0 hG => ?_
  refine AW.rseq ?_
  refine AWL.y rfl rfl (B rfl) (Yv.loadBox rfl ag_3 (i := 0) rfl (E rfl rfl) rfl) ?_
  refine AWL.y rfl rfl (B rfl) (Yv.move rfl (E rfl rfl)) ?_
  refine AWL.y rfl rfl (B rfl) (Yv.bits rfl rfl (E rfl rfl) (E rfl rfl)) ?_
  refine AWL.y rfl rfl (B rfl) (Yv.neq rfl (E rfl rfl) (E rfl rfl)) ?_
  refine AWL.nil ?_
  refine AW.cond rfl (fun h0t => ?_) (fun h0f => ?_)
  ·
   try replace h0t := of_decide_eq_true h0t
   have hsl := Lib.itoa_length_le n hn.1 hn.2
   refine AW.regionP rfl ?_
   refine AWP.take (i := 1) rfl (by kernel_rfl) (by kernel_rfl) (by kernel_rfl) rfl rfl (B rfl) (freeMove rfl (E rfl rfl)) ?_
   refine AWP.two (i := 0) (j := 2) (by kernel_rfl) rfl rfl ?_ ?_
   ·
    refine AWL.y rfl rfl (B rfl) (Yv.loadBox rfl ag_9 (i := 1) rfl (E rfl rfl) rfl) ?_
    refine AWL.nil ?_
    refine AWP.one (i := 2) (by kernel_rfl) rfl ?_
    refine AWL.callGT hG rfl rfl (B rfl) rfl ce_41 (E rfl rfl) (evsC (E rfl rfl) (evsC (E rfl rfl) evs0)) (formatInt41G n hn) ?_
    rintro t12 S12 rfl
    refine AWL.nil ?_
    refine AWP.one (i := 3) (by kernel_rfl) rfl ?_
    refine AWL.y rfl rfl (B rfl) (Yv.addL rfl (E rfl rfl) (E rfl rfl) (fun hg => by first | omega | (simp only [List.length_append, List.length_cons, List.length_nil]; omega))) ?_
    refine AWL.nil ?_
    refine AWP.one (i := 4) (by kernel_rfl) rfl ?_
    refine AWL.y rfl rfl (B rfl) (Yv.addL rfl (E rfl rfl) (E rfl rfl) (fun hg => by first | omega | (simp only [List.length_append, List.length_cons, List.length_nil]; omega))) ?_
    refine AWL.nil ?_
    refine AWP.one (i := 5) (by kernel_rfl) rfl ?_
    refine AWL.storeBox (i := 1) rfl rfl rfl ag_9 rfl (E rfl rfl) (E rfl rfl) rfl rfl (Nat.le_of_ble_eq_true rfl) ?_
    refine AWL.nil ?_
    refine AWP.done (by kernel_rfl) ?_
    refine retN .nil ?_
    (rw [putG, if_pos (show putOn f has = true from h0t)]; rfl)
   ·
    refine AWL.callGT hG rfl rfl (B rfl) rfl ce_41 (E rfl rfl) (evsC (E rfl rfl) (evsC (E rfl rfl) evs0)) (formatInt41G n hn) ?_
    rintro t12 S12 rfl
    refine AWL.nil ?_
    refine AWP.two (i := 0) (j := 3) (by kernel_rfl) rfl rfl ?_ ?_
    ·
     refine AWL.y rfl rfl (B rfl) (Yv.loadBox rfl ag_9 (i := 1) rfl (E rfl rfl) rfl) ?_
     refine AWL.nil ?_
     refine AWP.one (i := 3) (by kernel_rfl) rfl ?_
     refine AWL.y rfl rfl (B rfl) (Yv.addL rfl (E rfl rfl) (E rfl rfl) (fun hg => by first | omega | (simp only [List.length_append, List.length_cons, List.length_nil]; omega))) ?_
     refine AWL.nil ?_
     refine AWP.one (i := 4) (by kernel_rfl) rfl ?_
     refine AWL.y rfl rfl (B rfl) (Yv.addL rfl (E rfl rfl) (E rfl rfl) (fun hg => by first | omega | (simp only [List.length_append, List.length_cons, List.length_nil]; omega))) ?_
     refine AWL.nil ?_
     refine AWP.one (i := 5) (by kernel_rfl) rfl ?_
     refine AWL.storeBox (i := 1) rfl rfl rfl ag_9 rfl (E rfl rfl) (E rfl rfl) rfl rfl (Nat.le_of_ble_eq_true rfl) ?_
     refine AWL.nil ?_
     refine AWP.done (by kernel_rfl) ?_
     refine retN .nil ?_
     (rw [putG, if_pos (show putOn f has = true from h0t)]; rfl)
    ·
     refine AWL.y rfl rfl (B rfl) (Yv.addL rfl (E rfl rfl) (E rfl rfl) (fun hg => by first | omega | (simp only [List.length_append, List.length_cons, List.length_nil]; omega))) ?_
     refine AWL.nil ?_
     refine AWP.one (i := 0) (by kernel_rfl) rfl ?_
     refine AWL.y rfl rfl (B rfl) (Yv.loadBox rfl ag_9 (i := 1) rfl (E rfl rfl) rfl) ?_
     refine AWL.nil ?_
     refine AWP.one (i := 4) (by kernel_rfl) rfl ?_
     refine AWL.y rfl rfl (B rfl) (Yv.addL rfl (E rfl rfl) (E rfl rfl) (fun hg => by first | omega | (simp only [List.length_append, List.length_cons, List.length_nil]; omega))) ?_
     refine AWL.nil ?_
     refine AWP.one (i := 5) (by kernel_rfl) rfl ?_
     refine AWL.storeBox (i := 1) rfl rfl rfl ag_9 rfl (E rfl rfl) (E rfl rfl) rfl rfl (Nat.le_of_ble_eq_true rfl) ?_
     refine AWL.nil ?_
     refine AWP.done (by kernel_rfl) ?_
     refine retN .nil ?_
     (rw [putG, if_pos (show putOn f has = true from h0t)]; rfl)
  try replace h0f := of_decide_eq_false h0f
  refine AW.skip ?_
  refine retN .nil ?_
  (rw [putG, if_neg (show ¬ putOn f has = true from ne_true_of_eq_false h0f)])

set_option maxHeartbeats 1000000 in
theorem text14G (i : Ins) (hI : InsOk i) :
    ACallsG Tryd.prog tabG 14 [insT i] [] (fun t_ S => t_ = sv (textF i)) := by
  have l0 := wordT_len i.kind
  have l1 := putG_le (fieldsF i.kind).1 1 i.d (wordT i.kind) hI.d
  have l2 := putG_le (fieldsF i.kind).1 2 i.s (putG (fieldsF i.kind).1 1 i.d (wordT i.kind)) hI.s
  have l3 := putG_le (fieldsF i.kind).1 4 i.imm (putG (fieldsF i.kind).1 2 i.s (putG (fieldsF i.kind).1 1 i.d (wordT i.kind))) hI.imm
  have l4 := putG_le (fieldsF i.kind).1 8 i.cond (putG (fieldsF i.kind).1 4 i.imm (putG (fieldsF i.kind).1 2 i.s (putG (fieldsF i.kind).1 1 i.d (wordT i.kind)))) hI.cond
  have l5 := putG_le (fieldsF i.kind).1 16 i.size (putG (fieldsF i.kind).1 8 i.cond (putG (fieldsF i.kind).1 4 i.imm (putG (fieldsF i.kind).1 2 i.s (putG (fieldsF i.kind).1 1 i.d (wordT i.kind))))) hI.size
  refine ACallsG.intro Tryd.func14 rfl Tryd.ntmps14 (Nat.le_of_ble_eq_true rfl) rfl fun X w0 hG => ?_
  refine AW.rseq ?_
  refine AWL.boxOp rfl rfl (B rfl) rfl (E rfl rfl) rfl (fun b1 => ?_)
  refine AWL.y rfl rfl (B rfl) (Yv.assign rfl (E rfl rfl)) ?_
  refine AWL.nil ?_
  refine AW.seq ?_
  refine AW.rseq ?_
  refine AWL.y rfl rfl (B rfl) (Yv.loadBoxA rfl ag_23 (i := 0) rfl (E rfl rfl) rfl rfl) ?_
  refine AWL.callP rfl rfl (B rfl) rfl ce_12 (E rfl rfl) (evsC (E rfl rfl) evs0) (valid27 i) (fun t S h => h) ?_
  refine AWL.y rfl rfl (B rfl) (Yv.not rfl (E rfl rfl)) ?_
  refine AWL.nil ?_
  refine AW.cond rfl (fun h0t => ?_) (fun h0f => ?_)
  ·
   try replace h0t := of_decide_eq_true h0t
   have hval : ¬ validF i = true := by simpa using h0t
   refine AW.rseq ?_
   refine AWL.y rfl rfl (B rfl) (Yv.assign rfl (E rfl rfl)) ?_
   refine AWL.nil ?_
   refine AW.ret (retI (.tmp rfl .nil) ?_)
   rw [textF, if_neg hval]
   rfl
  try replace h0f := of_decide_eq_false h0f
  have hval : validF i = true := by simpa using h0f
  obtain ⟨hkk, hd, hs, hc⟩ := validF_regs hval
  refine AW.skip ?_
  refine AW.rseq ?_
  refine AWL.y rfl rfl (B rfl) (Yv.fieldBox rfl fo_23_0 (E rfl rfl)) ?_
  refine AWL.y rfl rfl (B rfl) (Yv.loadBox rfl ag_3 (i := 0) rfl (E rfl rfl) rfl) ?_
  refine AWL.callT rfl rfl (B rfl) rfl ce_35 (E rfl rfl) (evsC (E rfl rfl) evs0) (fields46 i.kind) ?_
  rintro t13 S13 rfl
  refine AWL.y rfl rfl (B rfl) (Yv.move rfl (E rfl rfl)) ?_
  refine AWL.y rfl rfl (B rfl) (Yv.extract rfl (E rfl rfl) rfl) ?_
  refine AWL.y rfl rfl (B rfl) (Yv.extract rfl (E rfl rfl) rfl) ?_
  refine AWL.allocOp rfl rfl (B rfl) rfl zc_3 (fun b3 => ?_)
  refine AWL.storeBox (i := 1) rfl rfl rfl ag_3 rfl (E rfl rfl) (E rfl rfl) rfl rfl (Nat.le_of_ble_eq_true rfl) ?_
  refine AWL.y rfl rfl (B rfl) (Yv.assign rfl (E rfl rfl)) ?_
  refine AWL.nil ?_
  refine AW.rseq ?_
  refine AWL.y rfl rfl (B rfl) (Yv.fieldBox rfl fo_23_0 (E rfl rfl)) ?_
  refine AWL.y rfl rfl (B rfl) (Yv.loadBox rfl ag_3 (i := 0) rfl (E rfl rfl) rfl) ?_
  refine AWL.callP rfl rfl (B rfl) rfl ce_39 (E rfl rfl) (evsC (E rfl rfl) evs0) (word39 i.kind hkk.1 hkk.2) (fun t S h => h) ?_
  refine AWL.allocOp rfl rfl (B rfl) rfl zc_9 (fun b5 => ?_)
  refine AWL.storeBox (i := 2) rfl rfl rfl ag_9 rfl (E rfl rfl) (E rfl rfl) rfl rfl (Nat.le_of_ble_eq_true rfl) ?_
  refine AWL.nil ?_
  refine AW.rseq ?_
  refine AWL.y rfl rfl (B rfl) (Yv.makeFunc rfl evs0 rfl (evsC (E rfl rfl) (evsC (E rfl rfl) evs0)) rfl) ?_
  refine AWL.y rfl rfl (B rfl) (Yv.assign rfl (E rfl rfl)) ?_
  refine AWL.nil ?_
  refine AW.perm (S' := [Ent.box b3 3 [T.v (.int .i64 (fieldsF i.kind).1)], Ent.box b5 9 [sv (wordT i.kind)]] ++ [.box b1 23 (insCells i)]) (List.perm_append_comm (l₁ := [_, _]) (l₂ := [_])) ?_
  refine AW.rseq ?_
  refine AWL.y rfl rfl (B rfl) (Yv.move rfl (E rfl rfl)) ?_
  refine AWL.y rfl rfl (B rfl) (Yv.fieldBox rfl fo_23_1 (E rfl rfl)) ?_
  refine AWL.y rfl rfl (B rfl) (Yv.loadBox rfl ag_3 (i := 2) rfl (E rfl rfl) rfl) ?_
  refine AWL.callG hG rfl rfl (B rfl) rfl ce_40 (E rfl rfl) (evsC (E rfl rfl) (evsC (E rfl rfl) evs0)) (S1 := [Ent.box b3 3 [T.v (.int .i64 (fieldsF i.kind).1)], Ent.box b5 9 [sv ((wordT i.kind))]]) (S2 := _) rfl (put40G 1 i.d (fieldsF i.kind).1 (wordT i.kind) b3 b5 hI.d (by omega)) ?_
  rintro t23 S23 rfl
  refine AWL.nil ?_
  refine AW.rseq ?_
  refine AWL.y rfl rfl (B rfl) (Yv.move rfl (E rfl rfl)) ?_
  refine AWL.y rfl rfl (B rfl) (Yv.fieldBox rfl fo_23_2 (E rfl rfl)) ?_
  refine AWL.y rfl rfl (B rfl) (Yv.loadBox rfl ag_3 (i := 2) rfl (E rfl rfl) rfl) ?_
  refine AWL.callG hG rfl rfl (B rfl) rfl ce_40 (E rfl rfl) (evsC (E rfl rfl) (evsC (E rfl rfl) evs0)) (S1 := [Ent.box b3 3 [T.v (.int .i64 (fieldsF i.kind).1)], Ent.box b5 9 [sv ((putG (fieldsF i.kind).1 1 i.d (wordT i.kind)))]]) (S2 := _) rfl (put40G 2 i.s (fieldsF i.kind).1 (putG (fieldsF i.kind).1 1 i.d (wordT i.kind)) b3 b5 hI.s (by omega)) ?_
  rintro t27 S27 rfl
  refine AWL.nil ?_
  refine AW.rseq ?_
  refine AWL.y rfl rfl (B rfl) (Yv.move rfl (E rfl rfl)) ?_
  refine AWL.y rfl rfl (B rfl) (Yv.fieldBox rfl fo_23_5 (E rfl rfl)) ?_
  refine AWL.y rfl rfl (B rfl) (Yv.loadBox rfl ag_2 (i := 2) rfl (E rfl rfl) rfl) ?_
  refine AWL.callG hG rfl rfl (B rfl) rfl ce_40 (E rfl rfl) (evsC (E rfl rfl) (evsC (E rfl rfl) evs0)) (S1 := [Ent.box b3 3 [T.v (.int .i64 (fieldsF i.kind).1)], Ent.box b5 9 [sv ((putG (fieldsF i.kind).1 2 i.s (putG (fieldsF i.kind).1 1 i.d (wordT i.kind))))]]) (S2 := _) rfl (put40G 4 i.imm (fieldsF i.kind).1 (putG (fieldsF i.kind).1 2 i.s (putG (fieldsF i.kind).1 1 i.d (wordT i.kind))) b3 b5 hI.imm (by omega)) ?_
  rintro t31 S31 rfl
  refine AWL.nil ?_
  refine AW.rseq ?_
  refine AWL.y rfl rfl (B rfl) (Yv.move rfl (E rfl rfl)) ?_
  refine AWL.y rfl rfl (B rfl) (Yv.fieldBox rfl fo_23_3 (E rfl rfl)) ?_
  refine AWL.y rfl rfl (B rfl) (Yv.loadBox rfl ag_3 (i := 2) rfl (E rfl rfl) rfl) ?_
  refine AWL.callG hG rfl rfl (B rfl) rfl ce_40 (E rfl rfl) (evsC (E rfl rfl) (evsC (E rfl rfl) evs0)) (S1 := [Ent.box b3 3 [T.v (.int .i64 (fieldsF i.kind).1)], Ent.box b5 9 [sv ((putG (fieldsF i.kind).1 4 i.imm (putG (fieldsF i.kind).1 2 i.s (putG (fieldsF i.kind).1 1 i.d (wordT i.kind)))))]]) (S2 := _) rfl (put40G 8 i.cond (fieldsF i.kind).1 (putG (fieldsF i.kind).1 4 i.imm (putG (fieldsF i.kind).1 2 i.s (putG (fieldsF i.kind).1 1 i.d (wordT i.kind)))) b3 b5 hI.cond (by omega)) ?_
  rintro t35 S35 rfl
  refine AWL.nil ?_
  refine AW.rseq ?_
  refine AWL.y rfl rfl (B rfl) (Yv.move rfl (E rfl rfl)) ?_
  refine AWL.y rfl rfl (B rfl) (Yv.fieldBox rfl fo_23_4 (E rfl rfl)) ?_
  refine AWL.y rfl rfl (B rfl) (Yv.loadBox rfl ag_3 (i := 2) rfl (E rfl rfl) rfl) ?_
  refine AWL.callG hG rfl rfl (B rfl) rfl ce_40 (E rfl rfl) (evsC (E rfl rfl) (evsC (E rfl rfl) evs0)) (S1 := [Ent.box b3 3 [T.v (.int .i64 (fieldsF i.kind).1)], Ent.box b5 9 [sv ((putG (fieldsF i.kind).1 8 i.cond (putG (fieldsF i.kind).1 4 i.imm (putG (fieldsF i.kind).1 2 i.s (putG (fieldsF i.kind).1 1 i.d (wordT i.kind))))))]]) (S2 := _) rfl (put40G 16 i.size (fieldsF i.kind).1 (putG (fieldsF i.kind).1 8 i.cond (putG (fieldsF i.kind).1 4 i.imm (putG (fieldsF i.kind).1 2 i.s (putG (fieldsF i.kind).1 1 i.d (wordT i.kind))))) b3 b5 hI.size (by omega)) ?_
  rintro t39 S39 rfl
  refine AWL.nil ?_
  refine AW.rseq ?_
  refine AWL.y rfl rfl (B rfl) (Yv.loadBox rfl ag_9 (i := 1) rfl (E rfl rfl) rfl) ?_
  refine AWL.y rfl rfl (B rfl) (Yv.assign rfl (E rfl rfl)) ?_
  refine AWL.nil ?_
  refine AW.ret (retI (.tmp rfl .nil) ?_)
  rw [textF, if_pos hval]
  rfl

end Go.Proofs.YtjndpakhmgapjaaDoor

namespace Go.Proofs.YtjndpakhmgapjaaDoor
open Go Go.RowKit
set_option linter.unusedSimpArgs false
set_option linter.unusedVariables false
set_option linter.unnecessarySimpa false
structure FormF where
  kind : Int
  size : Int
  first : Int
  rex : Bool
  w : Int
  op : List Int
  mod : Int
  digit : Int
  d : Int
  s : Int
  cond : Int
  imm : Int
  deriving Inhabited, DecidableEq
def formCells (f : FormF) : List T := [.v (.int .i64 f.kind), .v (.int .i64 f.size), .v (.int .i64 f.first), .v (.bool f.rex), .v (.int .i64 f.w), .sl 1 (ints f.op), .v (.int .i64 f.mod), .v (.int .i64 f.digit), .v (.int .i64 f.d), .v (.int .i64 f.s), .v (.int .i64 f.cond), .v (.int .i64 f.imm)]
def formT (f : FormF) : T := .agg (formCells f)
def formsF : List FormF := [⟨1, 0, 0, true, 1, [137], 3, 0, 2, 1, 0, 0⟩,
  ⟨2, 0, 0, true, 1, [199], 3, 0, 2, 0, 0, 6⟩,
  ⟨2, 0, 0, true, 1, [184], -1, 0, 3, 0, 0, 7⟩,
  ⟨3, 8, 0, true, 1, [139], 2, 0, 1, 2, 0, 6⟩,
  ⟨3, 4, 0, true, 0, [139], 2, 0, 1, 2, 0, 6⟩,
  ⟨3, 1, 0, true, 1, [15, 182], 2, 0, 1, 2, 0, 6⟩,
  ⟨4, 8, 0, true, 1, [137], 2, 0, 2, 1, 0, 6⟩,
  ⟨4, 4, 0, true, 0, [137], 2, 0, 2, 1, 0, 6⟩,
  ⟨4, 1, 0, true, 0, [136], 2, 0, 2, 1, 0, 6⟩,
  ⟨5, 0, 0, true, 1, [141], 2, 0, 1, 2, 0, 6⟩,
  ⟨6, 0, 0, true, 1, [1], 3, 0, 2, 1, 0, 0⟩,
  ⟨7, 0, 0, true, 1, [9], 3, 0, 2, 1, 0, 0⟩,
  ⟨8, 0, 0, true, 1, [17], 3, 0, 2, 1, 0, 0⟩,
  ⟨9, 0, 0, true, 1, [25], 3, 0, 2, 1, 0, 0⟩,
  ⟨10, 0, 0, true, 1, [33], 3, 0, 2, 1, 0, 0⟩,
  ⟨11, 0, 0, true, 1, [41], 3, 0, 2, 1, 0, 0⟩,
  ⟨12, 0, 0, true, 1, [49], 3, 0, 2, 1, 0, 0⟩,
  ⟨13, 0, 0, true, 1, [57], 3, 0, 2, 1, 0, 0⟩,
  ⟨14, 0, 0, true, 1, [133], 3, 0, 2, 1, 0, 0⟩,
  ⟨15, 0, 0, true, 1, [129], 3, 0, 2, 0, 0, 6⟩,
  ⟨16, 0, 0, true, 1, [129], 3, 1, 2, 0, 0, 6⟩,
  ⟨17, 0, 0, true, 1, [129], 3, 4, 2, 0, 0, 6⟩,
  ⟨18, 0, 0, true, 1, [129], 3, 5, 2, 0, 0, 6⟩,
  ⟨19, 0, 0, true, 1, [129], 3, 6, 2, 0, 0, 6⟩,
  ⟨20, 0, 0, true, 1, [129], 3, 7, 2, 0, 0, 6⟩,
  ⟨21, 0, 0, true, 1, [15, 175], 3, 0, 1, 2, 0, 0⟩,
  ⟨22, 0, 0, true, 1, [247], 3, 4, 2, 0, 0, 0⟩,
  ⟨23, 0, 0, true, 1, [247], 3, 6, 2, 0, 0, 0⟩,
  ⟨24, 0, 0, true, 1, [247], 3, 3, 2, 0, 0, 0⟩,
  ⟨25, 0, 0, true, 1, [247], 3, 2, 2, 0, 0, 0⟩,
  ⟨26, 0, 0, true, 1, [211], 3, 4, 2, 0, 0, 0⟩,
  ⟨27, 0, 0, true, 1, [211], 3, 5, 2, 0, 0, 0⟩,
  ⟨28, 0, 0, true, 1, [211], 3, 7, 2, 0, 0, 0⟩,
  ⟨29, 0, 0, true, 1, [193], 3, 4, 2, 0, 0, 5⟩,
  ⟨30, 0, 0, true, 1, [193], 3, 5, 2, 0, 0, 5⟩,
  ⟨31, 0, 0, true, 1, [193], 3, 7, 2, 0, 0, 5⟩,
  ⟨32, 0, 0, true, 0, [15, 144], 3, 0, 2, 0, 4, 0⟩,
  ⟨33, 0, 0, true, 1, [15, 182], 3, 0, 1, 2, 0, 0⟩,
  ⟨34, 0, 0, true, 1, [15, 64], 3, 0, 1, 2, 4, 0⟩,
  ⟨35, 1, 0, false, 0, [235], -1, 0, 0, 0, 0, 5⟩,
  ⟨35, 4, 0, false, 0, [233], -1, 0, 0, 0, 0, 6⟩,
  ⟨36, 1, 0, false, 0, [112], -1, 0, 0, 0, 4, 5⟩,
  ⟨36, 4, 0, false, 0, [15, 128], -1, 0, 0, 0, 4, 6⟩,
  ⟨37, 0, 0, false, 0, [232], -1, 0, 0, 0, 0, 6⟩,
  ⟨38, 0, 0, true, 0, [255], 3, 2, 2, 0, 0, 0⟩,
  ⟨39, 0, 0, true, 0, [255], 3, 4, 2, 0, 0, 0⟩,
  ⟨40, 0, 0, false, 0, [195], -1, 0, 0, 0, 0, 0⟩,
  ⟨41, 0, 0, true, 0, [80], -1, 0, 3, 0, 0, 0⟩,
  ⟨42, 0, 0, true, 0, [88], -1, 0, 3, 0, 0, 0⟩,
  ⟨43, 0, 0, false, 0, [15, 5], -1, 0, 0, 0, 0, 0⟩,
  ⟨44, 0, 0, false, 0, [15, 11], -1, 0, 0, 0, 0, 0⟩,
  ⟨45, 0, 102, true, 1, [15, 110], 3, 0, 1, 2, 0, 0⟩,
  ⟨46, 0, 102, true, 1, [15, 126], 3, 0, 2, 1, 0, 0⟩,
  ⟨47, 0, 242, true, 0, [15, 88], 3, 0, 1, 2, 0, 0⟩,
  ⟨48, 0, 242, true, 0, [15, 89], 3, 0, 1, 2, 0, 0⟩,
  ⟨49, 0, 242, true, 0, [15, 92], 3, 0, 1, 2, 0, 0⟩,
  ⟨50, 0, 242, true, 0, [15, 94], 3, 0, 1, 2, 0, 0⟩,
  ⟨51, 0, 102, true, 0, [15, 46], 3, 0, 1, 2, 0, 0⟩,
  ⟨52, 0, 242, true, 1, [15, 42], 3, 0, 1, 2, 0, 0⟩]
def fieldR (p n : Int) : Bool := (decide (p = 0) && decide (n = 0)) || ((!decide (p = 0) && decide (0 ≤ n)) && decide (n ≤ 15))
def numberR (f : FormF) (n : Int) : Bool :=
  if f.imm = 0 then decide (n = 0)
  else if f.imm = 5 then (if (decide (f.kind = 35) || decide (f.kind = 36)) = true then inF n (-128) 127 else inF n 0 63)
  else if f.imm = 6 then smallF n else !smallF n
def fitsF (f : FormF) (i : Ins) : Bool := ((((decide (f.kind = i.kind) && decide (f.size = i.size)) && fieldR f.d i.d) && fieldR f.s i.s) && fieldR f.cond i.cond) && numberR f i.imm
def atF (f : FormF) (i : Ins) (p : Int) : Int := if f.d = p then i.d else if f.s = p then i.s else 0
def upF (f : FormF) (i : Ins) : Int := atF f i 1
def baseF (f : FormF) (i : Ins) : Int := atF f i 2 + atF f i 3
def opX (f : FormF) (i : Ins) (k : Nat) : Int := f.op.getD k 0 + (if (decide ((k : Int) = (f.op.length : Int) - 1) && decide (f.cond = 4)) = true then i.cond else 0)
def opY (f : FormF) (i : Ins) (k : Nat) : Int := opX f i k + (if (decide ((k : Int) = (f.op.length : Int) - 1) && decide (f.d = 3)) = true then i.d % 8 else 0)
def r0 (f : FormF) : List UInt8 := if 0 < f.first then [byteOf f.first] else []
def r1 (f : FormF) (i : Ins) : List UInt8 := r0 f ++ (if f.rex = true then [byteOf (64 + 8 * f.w + 4 * (upF f i / 8) + baseF f i / 8)] else [])
def r2 (f : FormF) (i : Ins) (j : Nat) : List UInt8 := r1 f i ++ (List.range j).map (fun k => byteOf (opY f i k))
def regX (f : FormF) (i : Ins) : Int := if (!decide (f.d = 1) && !decide (f.s = 1)) = true then f.digit else upF f i % 8
def modB (f : FormF) (i : Ins) : List UInt8 := byteOf (64 * f.mod + 8 * regX f i + baseF f i % 8) :: (if (decide (f.mod = 2) && decide (baseF f i % 8 = 4)) = true then [36] else [])
def r3 (f : FormF) (i : Ins) : List UInt8 := r2 f i f.op.length ++ (if 0 ≤ f.mod then modB f i else [])
def sizeR (k : Int) : Nat := if k = 5 then 1 else if k = 6 then 4 else if k = 7 then 8 else 0
def r4 (f : FormF) (i : Ins) (j : Nat) : List UInt8 := r3 f i ++ leBytes j (i.imm % 18446744073709551616)
def bytesF (f : FormF) (i : Ins) : List UInt8 := r4 f i (sizeR f.imm)
structure FormOk (f : FormF) : Prop where
  w : 0 ≤ f.w ∧ f.w ≤ 1
  first : 0 ≤ f.first ∧ f.first ≤ 255
  op : ∀ x ∈ f.op, 0 ≤ x ∧ x ≤ 255
  len : f.op.length ≤ 2
  mod : -1 ≤ f.mod ∧ f.mod ≤ 3
  digit : 0 ≤ f.digit ∧ f.digit ≤ 7
theorem forms_ok : ∀ f ∈ formsF, FormOk f := by
  have h : formsF.all (fun f => decide (0 ≤ f.w ∧ f.w ≤ 1) && decide (0 ≤ f.first ∧ f.first ≤ 255) && f.op.all (fun x => decide (0 ≤ x ∧ x ≤ 255)) && decide (f.op.length ≤ 2) && decide (-1 ≤ f.mod ∧ f.mod ≤ 3) && decide (0 ≤ f.digit ∧ f.digit ≤ 7)) = true := by decide
  intro f hf
  have := List.all_eq_true.1 h f hf
  simp only [Bool.and_eq_true, decide_eq_true_eq, List.all_eq_true] at this
  obtain ⟨⟨⟨⟨⟨a, b⟩, c⟩, d⟩, e⟩, g⟩ := this
  exact ⟨a, b, c, d, e, g⟩
theorem forms_len : formsF.length = 59 := rfl
theorem field_range {p n : Int} (h : fieldR p n = true) : 0 ≤ n ∧ n ≤ 15 := by
  unfold fieldR at h
  simp only [Bool.or_eq_true, Bool.and_eq_true, Bool.not_eq_true', decide_eq_true_eq, decide_eq_false_iff_not] at h
  omega
theorem fits_range {f : FormF} {i : Ins} (h : fitsF f i = true) : (0 ≤ i.d ∧ i.d ≤ 15) ∧ (0 ≤ i.s ∧ i.s ≤ 15) ∧ (0 ≤ i.cond ∧ i.cond ≤ 15) := by
  unfold fitsF at h
  simp only [Bool.and_eq_true] at h
  exact ⟨field_range h.1.1.1.2, field_range h.1.1.2, field_range h.1.2⟩
theorem at_range {f : FormF} {i : Ins} (hd : 0 ≤ i.d ∧ i.d ≤ 15) (hs : 0 ≤ i.s ∧ i.s ≤ 15) (p : Int) : 0 ≤ atF f i p ∧ atF f i p ≤ 15 := by
  unfold atF
  split
  · exact hd
  · split
    · exact hs
    · omega
theorem opX_range {f : FormF} {i : Ins} (hf : FormOk f) (hc : 0 ≤ i.cond ∧ i.cond ≤ 15) {k : Nat} (hk : k < f.op.length) : 0 ≤ f.op.getD k 0 ∧ f.op.getD k 0 ≤ 255 ∧ 0 ≤ opX f i k ∧ opX f i k ≤ 270 := by
  have := hf.op (f.op.getD k 0) (by simp [hk])
  unfold opX
  split <;> omega
theorem r2_step (f : FormF) (i : Ins) (j : Nat) : (r2 f i (j + 1)).map u8 = (r2 f i j).map u8 ++ [u8 (byteOf (opY f i j))] ∧ (r2 f i (j + 1)).length = (r2 f i j).length + 1 := by
  simp [r2, List.range_succ, Nat.add_assoc]
theorem r4_step (f : FormF) (i : Ins) (j : Nat) : (r4 f i (j + 1)).map u8 = (r4 f i j).map u8 ++ [u8 (byteOf (i.imm % 18446744073709551616 / 256 ^ j))] ∧ (r4 f i (j + 1)).length = (r4 f i j).length + 1 := by
  constructor
  · rw [r4, leBytes_succ, ← List.append_assoc, List.map_append, ← r4]
    rfl
  · simp [r4, leBytes_length, Nat.add_assoc]
theorem u8w (p : Int) : [u8 (byteOf p)] = [T.v (.int .u8 (IntKind.u8.wrap p))] := by rw [byteOf_wrap]
theorem r0_yes {f : FormF} (h : 0 < f.first) : (r0 f).length = 0 + 1 ∧ (r0 f).map u8 = [] ++ [T.v (.int .u8 (IntKind.u8.wrap f.first))] := by
  rw [r0, if_pos h]
  exact ⟨rfl, u8w _⟩
theorem r0_no {f : FormF} (h : ¬ 0 < f.first) : r0 f = [] := by rw [r0, if_neg h]
theorem r1_yes {f : FormF} {i : Ins} (h : f.rex = true) : (r1 f i).length = (r0 f).length + 1 ∧ (r1 f i).map u8 = (r0 f).map u8 ++ [T.v (.int .u8 (IntKind.u8.wrap (64 + 8 * f.w + 4 * (upF f i / 8) + baseF f i / 8)))] := by
  rw [r1, if_pos h, List.length_append, List.map_append]
  refine ⟨rfl, ?_⟩
  rw [← u8w]
  rfl
theorem r1_no {f : FormF} {i : Ins} (h : ¬ f.rex = true) : r1 f i = r0 f := by rw [r1, if_neg h, List.append_nil]
theorem r2_next (f : FormF) (i : Ins) (j : Nat) : (r2 f i (j + 1)).length = (r2 f i j).length + 1 ∧ (r2 f i (j + 1)).map u8 = (r2 f i j).map u8 ++ [T.v (.int .u8 (IntKind.u8.wrap (opY f i j)))] := by
  rw [← u8w]
  exact ⟨(r2_step f i j).2, (r2_step f i j).1⟩
theorem r2_zero (f : FormF) (i : Ins) : r2 f i 0 = r1 f i := by simp [r2]
theorem r3_no {f : FormF} {i : Ins} (h : ¬ 0 ≤ f.mod) : r3 f i = r2 f i f.op.length := by rw [r3, if_neg h, List.append_nil]
theorem r3_yes {f : FormF} {i : Ins} (h : 0 ≤ f.mod) (h2 : (decide (f.mod = 2) && decide (baseF f i % 8 = 4)) = true) : (r3 f i).length = (r2 f i f.op.length).length + 1 + 1 ∧ (r3 f i).map u8 = (r2 f i f.op.length).map u8 ++ [T.v (.int .u8 (IntKind.u8.wrap (64 * f.mod + 8 * regX f i + baseF f i % 8)))] ++ [T.v (.int .u8 36)] := by
  rw [r3, if_pos h, modB, if_pos h2, List.length_append, List.map_append, ← u8w, List.append_assoc]
  exact ⟨rfl, rfl⟩
theorem r3_one {f : FormF} {i : Ins} (h : 0 ≤ f.mod) (h2 : ¬ (decide (f.mod = 2) && decide (baseF f i % 8 = 4)) = true) : (r3 f i).length = (r2 f i f.op.length).length + 1 ∧ (r3 f i).map u8 = (r2 f i f.op.length).map u8 ++ [T.v (.int .u8 (IntKind.u8.wrap (64 * f.mod + 8 * regX f i + baseF f i % 8)))] := by
  rw [r3, if_pos h, modB, if_neg h2, List.length_append, List.map_append, ← u8w]
  exact ⟨rfl, rfl⟩
theorem r4_zero (f : FormF) (i : Ins) : r4 f i 0 = r3 f i := by rw [r4, leBytes, List.append_nil]
theorem byteOf_mod (p : Int) : byteOf (p % 256) = byteOf p := by
  unfold byteOf
  rw [Int.emod_emod_of_dvd _ (Int.dvd_refl 256)]
theorem r4_next (f : FormF) (i : Ins) (j : Nat) : (r4 f i (j + 1)).length = (r4 f i j).length + 1 ∧ (r4 f i (j + 1)).map u8 = (r4 f i j).map u8 ++ [T.v (.int .u8 (IntKind.u8.wrap (i.imm % 18446744073709551616 / 256 ^ j % 256)))] := by
  rw [← u8w, byteOf_mod]
  exact ⟨(r4_step f i j).2, (r4_step f i j).1⟩
theorem imm_step (n : Int) (j : Nat) : 0 ≤ n % 18446744073709551616 / 256 ^ j ∧ n % 18446744073709551616 / 256 ^ j ≤ 18446744073709551615 := div_range _ j (by omega) (by omega)
theorem sizeR_le (k : Int) : sizeR k ≤ 8 := by
  unfold sizeR
  repeat' split
  all_goals decide
theorem bits_len (f : FormF) (i : Ins) : (r0 f).length ≤ 1 ∧ (r1 f i).length ≤ 2 ∧ (∀ j, (r2 f i j).length ≤ 2 + j) ∧ (r3 f i).length ≤ f.op.length + 4 ∧ ∀ j, (r4 f i j).length ≤ f.op.length + 4 + j := by
  have h0 : (r0 f).length ≤ 1 := by unfold r0; split <;> simp
  have h1 : (r1 f i).length ≤ 2 := by
    unfold r1
    rw [List.length_append]
    split <;> simp <;> omega
  have h2 : ∀ j, (r2 f i j).length ≤ 2 + j := fun j => by
    unfold r2
    rw [List.length_append, List.length_map, List.length_range]
    omega
  have h3 : (r3 f i).length ≤ f.op.length + 4 := by
    have := h2 f.op.length
    unfold r3 modB
    rw [List.length_append]
    split
    · split <;> simp <;> omega
    · simp; omega
  refine ⟨h0, h1, h2, h3, fun j => ?_⟩
  rw [r4, List.length_append, leBytes_length]
  omega
theorem form_get {l : List FormF} {j : Nat} (h : j < l.length) : ((l.flatMap formCells).drop (j * 12)).take 12 = formCells (l.getD j default) ∧ (formCells (l.getD j default)).length = 12 := flat_get (f := formCells) (k := 12) (fun _ => rfl) h
theorem len_forms {l : List FormF} : (l.flatMap formCells).length = l.length * 12 := len_flat (f := formCells) (k := 12) (fun _ => rfl) l
theorem form_len (f : FormF) : (formCells f).length = 12 := rfl
def refF (i : Ins) : Option FormF := formsF.find? (fun f => fitsF f i)
def refB (i : Ins) : List UInt8 := match refF i with
  | some f => bytesF f i
  | none => []
def refE (i : Ins) : Int := if (refF i).isSome = true then 0 else 200
end Go.Proofs.YtjndpakhmgapjaaDoor

namespace Go.Proofs.YtjndpakhmgapjaaDoor
open Go Go.RowKit
set_option linter.unusedVariables false
set_option linter.unnecessarySimpa false
set_option linter.unusedSimpArgs false

set_option maxHeartbeats 400000 in
theorem field60 (p n : Int) :
    ACalls Tryd.prog 52 [.v (.int .i64 p), .v (.int .i64 n)] [] fun t_ S => t_ = .v (.bool (fieldR p n)) := by
  refine ACalls.intro Tryd.func52 rfl Tryd.ntmps52 (Nat.le_of_ble_eq_true rfl) rfl fun X w0 => ?_
  refine AW.rseq ?_
  refine AWL.y rfl rfl (B rfl) (Yv.assign rfl (E rfl rfl)) ?_
  refine AWL.nil ?_
  refine AW.rseq ?_
  refine AWL.y rfl rfl (B rfl) (Yv.move rfl (E rfl rfl)) ?_
  refine AWL.y rfl rfl (B rfl) (Yv.eql rfl (E rfl rfl) (E rfl rfl)) ?_
  refine AWL.y rfl rfl (B rfl) (Yv.move rfl (E rfl rfl)) ?_
  refine AWL.ygT rfl rfl rfl rfl (B rfl) (Yv.move rfl (E rfl rfl)) ?_
  refine AWL.ygT rfl rfl rfl rfl (B rfl) (Yv.eql rfl (Eg rfl rfl id) (E rfl rfl)) ?_
  refine AWL.y rfl rfl (B rfl) (Yv.pickAnd rfl (E rfl rfl) (Eg rfl rfl id)) ?_
  refine AWL.y rfl rfl (B rfl) (Yv.move rfl (E rfl rfl)) ?_
  refine AWL.ygF rfl rfl rfl rfl (B rfl) (Yv.move rfl (E rfl rfl)) ?_
  refine AWL.ygF rfl rfl rfl rfl (B rfl) (Yv.neq rfl (Eg rfl rfl id) (E rfl rfl)) ?_
  refine AWL.ygF rfl rfl rfl rfl (B rfl) (Yv.move rfl (Eg rfl rfl id)) ?_
  refine AWL.ygT rfl rfl rfl rfl (B rfl) (Yv.move rfl (E rfl rfl)) ?_
  refine AWL.ygT rfl rfl rfl rfl (B rfl) (Yv.geq rfl (Eg rfl rfl id) (E rfl rfl)) ?_
  refine AWL.ygF rfl rfl rfl rfl (B rfl) (Yv.pickAnd rfl (Eg rfl rfl id) (Eg rfl rfl id)) ?_
  refine AWL.ygF rfl rfl rfl rfl (B rfl) (Yv.move rfl (Eg rfl rfl id)) ?_
  refine AWL.ygT rfl rfl rfl rfl (B rfl) (Yv.move rfl (E rfl rfl)) ?_
  refine AWL.ygT rfl rfl rfl rfl (B rfl) (Yv.leq rfl (Eg rfl rfl id) (E rfl rfl)) ?_
  refine AWL.ygF rfl rfl rfl rfl (B rfl) (Yv.pickAnd rfl (Eg rfl rfl id) (Eg rfl rfl id)) ?_
  refine AWL.y rfl rfl (B rfl) (Yv.pickOr (t := .const (.bool true)) rfl (E rfl rfl) (Eg rfl rfl id)) ?_
  refine AWL.y rfl rfl (B rfl) (Yv.assign rfl (E rfl rfl)) ?_
  refine AWL.nil ?_
  refine AW.ret (retI (.tmp rfl .nil) ?_)
  rfl

set_option maxHeartbeats 400000 in
theorem within69 (n lo hi : Int) :
    ACalls Tryd.prog 67 [.v (.int .i64 n), .v (.int .i64 lo), .v (.int .i64 hi)] [] fun t_ S => t_ = .v (.bool (inF n lo hi)) := by
  refine ACalls.intro Tryd.func67 rfl Tryd.ntmps67 (Nat.le_of_ble_eq_true rfl) rfl fun X w0 => ?_
  refine AW.rseq ?_
  refine AWL.y rfl rfl (B rfl) (Yv.assign rfl (E rfl rfl)) ?_
  refine AWL.nil ?_
  refine AW.rseq ?_
  refine AWL.y rfl rfl (B rfl) (Yv.move rfl (E rfl rfl)) ?_
  refine AWL.y rfl rfl (B rfl) (Yv.move rfl (E rfl rfl)) ?_
  refine AWL.y rfl rfl (B rfl) (Yv.geq rfl (E rfl rfl) (E rfl rfl)) ?_
  refine AWL.y rfl rfl (B rfl) (Yv.move rfl (E rfl rfl)) ?_
  refine AWL.ygT rfl rfl rfl rfl (B rfl) (Yv.move rfl (E rfl rfl)) ?_
  refine AWL.ygT rfl rfl rfl rfl (B rfl) (Yv.move rfl (E rfl rfl)) ?_
  refine AWL.ygT rfl rfl rfl rfl (B rfl) (Yv.leq rfl (Eg rfl rfl id) (Eg rfl rfl id)) ?_
  refine AWL.y rfl rfl (B rfl) (Yv.pickAnd rfl (E rfl rfl) (Eg rfl rfl id)) ?_
  refine AWL.y rfl rfl (B rfl) (Yv.assign rfl (E rfl rfl)) ?_
  refine AWL.nil ?_
  refine AW.ret (retI (.tmp rfl .nil) ?_)
  rfl

set_option maxHeartbeats 400000 in
theorem short70 (n : Int) :
    ACalls Tryd.prog 66 [.v (.int .i64 n)] [] fun t_ S => t_ = .v (.bool (smallF n)) := by
  refine ACalls.intro Tryd.func66 rfl Tryd.ntmps66 (Nat.le_of_ble_eq_true rfl) rfl fun X w0 => ?_
  refine AW.rseq ?_
  refine AWL.y rfl rfl (B rfl) (Yv.assign rfl (E rfl rfl)) ?_
  refine AWL.nil ?_
  refine AW.rseq ?_
  refine AWL.y rfl rfl (B rfl) (Yv.move rfl (E rfl rfl)) ?_
  refine AWL.callP rfl rfl (B rfl) rfl ce_67 (E rfl rfl) (evsC (E rfl rfl) (evsC (E rfl rfl) (evsC (E rfl rfl) evs0))) (within69 n _ _) (fun t S h => h) ?_
  refine AWL.y rfl rfl (B rfl) (Yv.assign rfl (E rfl rfl)) ?_
  refine AWL.nil ?_
  refine AW.ret (retI (.tmp rfl .nil) ?_)
  rfl

set_option maxHeartbeats 400000 in
theorem number61 (f : FormF) (n : Int) :
    ACalls Tryd.prog 53 [formT f, .v (.int .i64 n)] [] fun t_ S => t_ = .v (.bool (numberR f n)) := by
  refine ACalls.intro Tryd.func53 rfl Tryd.ntmps53 (Nat.le_of_ble_eq_true rfl) rfl fun X w0 => ?_
  refine AW.rseq ?_
  refine AWL.boxOp rfl rfl (B rfl) rfl (E rfl rfl) rfl (fun b2 => ?_)
  refine AWL.y rfl rfl (B rfl) (Yv.assign rfl (E rfl rfl)) ?_
  refine AWL.nil ?_
  refine AW.seq ?_
  refine AW.rseq ?_
  refine AWL.y rfl rfl (B rfl) (Yv.fieldBox rfl fo_45_11 (E rfl rfl)) ?_
  refine AWL.y rfl rfl (B rfl) (Yv.loadBox rfl ag_3 (i := 0) rfl (E rfl rfl) rfl) ?_
  refine AWL.nil ?_
  refine AW.block ?_
  refine AW.rseq ?_
  refine AWL.y rfl rfl (B rfl) (Yv.eql rfl (E rfl rfl) (E rfl rfl)) ?_
  refine AWL.y rfl rfl (B rfl) (Yv.assign rfl (E rfl rfl)) ?_
  refine AWL.nil ?_
  refine AW.cond rfl (fun h0t => ?_) (fun h0f => ?_)
  ·
   try replace h0t := of_decide_eq_true h0t
   refine AW.rseq ?_
   refine AWL.y rfl rfl (B rfl) (Yv.move rfl (E rfl rfl)) ?_
   refine AWL.y rfl rfl (B rfl) (Yv.eql rfl (E rfl rfl) (E rfl rfl)) ?_
   refine AWL.y rfl rfl (B rfl) (Yv.assign rfl (E rfl rfl)) ?_
   refine AWL.nil ?_
   refine AW.ret (retI (.tmp rfl .nil) ?_)
   show T.v (.bool _) = T.v (.bool _)
   rw [numberR, if_pos h0t]
  try replace h0f := of_decide_eq_false h0f
  refine AW.rseq ?_
  refine AWL.y rfl rfl (B rfl) (Yv.eql rfl (E rfl rfl) (E rfl rfl)) ?_
  refine AWL.y rfl rfl (B rfl) (Yv.assign rfl (E rfl rfl)) ?_
  refine AWL.nil ?_
  refine AW.cond rfl (fun h1t => ?_) (fun h1f => ?_)
  ·
   try replace h1t := of_decide_eq_true h1t
   refine AW.seq ?_
   refine AW.rseq ?_
   refine AWL.y rfl rfl (B rfl) (Yv.fieldBox rfl fo_45_0 (E rfl rfl)) ?_
   refine AWL.y rfl rfl (B rfl) (Yv.loadBox rfl ag_3 (i := 0) rfl (E rfl rfl) rfl) ?_
   refine AWL.y rfl rfl (B rfl) (Yv.eql rfl (E rfl rfl) (E rfl rfl)) ?_
   refine AWL.y rfl rfl (B rfl) (Yv.move rfl (E rfl rfl)) ?_
   refine AWL.ygF rfl rfl rfl rfl (B rfl) (Yv.fieldBox rfl fo_45_0 (E rfl rfl)) ?_
   refine AWL.ygF rfl rfl rfl rfl (B rfl) (Yv.loadBox rfl ag_3 (i := 0) rfl (Eg rfl rfl id) rfl) ?_
   refine AWL.ygF rfl rfl rfl rfl (B rfl) (Yv.eql rfl (Eg rfl rfl id) (E rfl rfl)) ?_
   refine AWL.y rfl rfl (B rfl) (Yv.pickOr (t := .const (.bool true)) rfl (E rfl rfl) (Eg rfl rfl id)) ?_
   refine AWL.nil ?_
   refine AW.cond rfl (fun h2t => ?_) (fun h2f => ?_)
   ·
    try replace h2t := of_decide_eq_true h2t
    refine AW.rseq ?_
    refine AWL.y rfl rfl (B rfl) (Yv.move rfl (E rfl rfl)) ?_
    refine AWL.callP rfl rfl (B rfl) rfl ce_67 (E rfl rfl) (evsC (E rfl rfl) (evsC (E rfl rfl) (evsC (E rfl rfl) evs0))) (within69 n _ _) (fun t S h => h) ?_
    refine AWL.y rfl rfl (B rfl) (Yv.assign rfl (E rfl rfl)) ?_
    refine AWL.nil ?_
    refine AW.ret (retI (.tmp rfl .nil) ?_)
    show T.v (.bool _) = T.v (.bool _)
    rw [numberR, if_neg h0f, if_pos h1t, if_pos h2t]
   try replace h2f := of_decide_eq_false h2f
   refine AW.skip ?_
   refine AW.rseq ?_
   refine AWL.y rfl rfl (B rfl) (Yv.move rfl (E rfl rfl)) ?_
   refine AWL.callP rfl rfl (B rfl) rfl ce_67 (E rfl rfl) (evsC (E rfl rfl) (evsC (E rfl rfl) (evsC (E rfl rfl) evs0))) (within69 n _ _) (fun t S h => h) ?_
   refine AWL.y rfl rfl (B rfl) (Yv.assign rfl (E rfl rfl)) ?_
   refine AWL.nil ?_
   refine AW.ret (retI (.tmp rfl .nil) ?_)
   show T.v (.bool _) = T.v (.bool _)
   rw [numberR, if_neg h0f, if_pos h1t, if_neg (ne_true_of_eq_false h2f)]
  try replace h1f := of_decide_eq_false h1f
  refine AW.rseq ?_
  refine AWL.y rfl rfl (B rfl) (Yv.eql rfl (E rfl rfl) (E rfl rfl)) ?_
  refine AWL.y rfl rfl (B rfl) (Yv.assign rfl (E rfl rfl)) ?_
  refine AWL.nil ?_
  refine AW.cond rfl (fun h3t => ?_) (fun h3f => ?_)
  ·
   try replace h3t := of_decide_eq_true h3t
   refine AW.rseq ?_
   refine AWL.y rfl rfl (B rfl) (Yv.move rfl (E rfl rfl)) ?_
   refine AWL.callP rfl rfl (B rfl) rfl ce_66 (E rfl rfl) (evsC (E rfl rfl) evs0) (short70 n) (fun t S h => h) ?_
   refine AWL.y rfl rfl (B rfl) (Yv.assign rfl (E rfl rfl)) ?_
   refine AWL.nil ?_
   refine AW.ret (retI (.tmp rfl .nil) ?_)
   show T.v (.bool _) = T.v (.bool _)
   rw [numberR, if_neg h0f, if_neg h1f, if_pos h3t]
  try replace h3f := of_decide_eq_false h3f
  refine AW.skip ?_
  refine AW.rseq ?_
  refine AWL.y rfl rfl (B rfl) (Yv.move rfl (E rfl rfl)) ?_
  refine AWL.callP rfl rfl (B rfl) rfl ce_66 (E rfl rfl) (evsC (E rfl rfl) evs0) (short70 n) (fun t S h => h) ?_
  refine AWL.y rfl rfl (B rfl) (Yv.not rfl (E rfl rfl)) ?_
  refine AWL.y rfl rfl (B rfl) (Yv.assign rfl (E rfl rfl)) ?_
  refine AWL.nil ?_
  refine AW.ret (retI (.tmp rfl .nil) ?_)
  show T.v (.bool _) = T.v (.bool _)
  rw [numberR, if_neg h0f, if_neg h1f, if_neg h3f]

set_option maxHeartbeats 400000 in
theorem fits51 (f : FormF) (i : Ins) :
    ACalls Tryd.prog 24 [formT f, insT i] [] fun t_ S => t_ = .v (.bool (fitsF f i)) := by
  refine ACalls.intro Tryd.func24 rfl Tryd.ntmps24 (Nat.le_of_ble_eq_true rfl) rfl fun X w0 => ?_
  refine AW.rseq ?_
  refine AWL.boxOp rfl rfl (B rfl) rfl (E rfl rfl) rfl (fun b2 => ?_)
  refine AWL.boxOp rfl rfl (B rfl) rfl (E rfl rfl) rfl (fun b3 => ?_)
  refine AWL.y rfl rfl (B rfl) (Yv.assign rfl (E rfl rfl)) ?_
  refine AWL.nil ?_
  refine AW.rseq ?_
  refine AWL.y rfl rfl (B rfl) (Yv.fieldBox rfl fo_45_8 (E rfl rfl)) ?_
  refine AWL.y rfl rfl (B rfl) (Yv.loadBox rfl ag_3 (i := 0) rfl (E rfl rfl) rfl) ?_
  refine AWL.y rfl rfl (B rfl) (Yv.fieldBox rfl fo_23_1 (E rfl rfl)) ?_
  refine AWL.y rfl rfl (B rfl) (Yv.loadBox rfl ag_3 (i := 1) rfl (E rfl rfl) rfl) ?_
  refine AWL.callP rfl rfl (B rfl) rfl ce_52 (E rfl rfl) (evsC (E rfl rfl) (evsC (E rfl rfl) evs0)) (field60 f.d i.d) (fun t S h => h) ?_
  refine AWL.y rfl rfl (B rfl) (Yv.assign rfl (E rfl rfl)) ?_
  refine AWL.nil ?_
  refine AW.rseq ?_
  refine AWL.y rfl rfl (B rfl) (Yv.fieldBox rfl fo_45_9 (E rfl rfl)) ?_
  refine AWL.y rfl rfl (B rfl) (Yv.loadBox rfl ag_3 (i := 0) rfl (E rfl rfl) rfl) ?_
  refine AWL.y rfl rfl (B rfl) (Yv.fieldBox rfl fo_23_2 (E rfl rfl)) ?_
  refine AWL.y rfl rfl (B rfl) (Yv.loadBox rfl ag_3 (i := 1) rfl (E rfl rfl) rfl) ?_
  refine AWL.callP rfl rfl (B rfl) rfl ce_52 (E rfl rfl) (evsC (E rfl rfl) (evsC (E rfl rfl) evs0)) (field60 f.s i.s) (fun t S h => h) ?_
  refine AWL.y rfl rfl (B rfl) (Yv.assign rfl (E rfl rfl)) ?_
  refine AWL.nil ?_
  refine AW.rseq ?_
  refine AWL.y rfl rfl (B rfl) (Yv.fieldBox rfl fo_45_10 (E rfl rfl)) ?_
  refine AWL.y rfl rfl (B rfl) (Yv.loadBox rfl ag_3 (i := 0) rfl (E rfl rfl) rfl) ?_
  refine AWL.y rfl rfl (B rfl) (Yv.fieldBox rfl fo_23_3 (E rfl rfl)) ?_
  refine AWL.y rfl rfl (B rfl) (Yv.loadBox rfl ag_3 (i := 1) rfl (E rfl rfl) rfl) ?_
  refine AWL.callP rfl rfl (B rfl) rfl ce_52 (E rfl rfl) (evsC (E rfl rfl) (evsC (E rfl rfl) evs0)) (field60 f.cond i.cond) (fun t S h => h) ?_
  refine AWL.y rfl rfl (B rfl) (Yv.assign rfl (E rfl rfl)) ?_
  refine AWL.nil ?_
  refine AW.rseq ?_
  refine AWL.y rfl rfl (B rfl) (Yv.loadBoxA rfl ag_45 (i := 0) rfl (E rfl rfl) rfl rfl) ?_
  refine AWL.y rfl rfl (B rfl) (Yv.fieldBox rfl fo_23_5 (E rfl rfl)) ?_
  refine AWL.y rfl rfl (B rfl) (Yv.loadBox rfl ag_2 (i := 1) rfl (E rfl rfl) rfl) ?_
  refine AWL.callP rfl rfl (B rfl) rfl ce_53 (E rfl rfl) (evsC (E rfl rfl) (evsC (E rfl rfl) evs0)) (number61 f i.imm) (fun t S h => h) ?_
  refine AWL.y rfl rfl (B rfl) (Yv.assign rfl (E rfl rfl)) ?_
  refine AWL.nil ?_
  refine AW.rseq ?_
  refine AWL.y rfl rfl (B rfl) (Yv.fieldBox rfl fo_45_0 (E rfl rfl)) ?_
  refine AWL.y rfl rfl (B rfl) (Yv.loadBox rfl ag_3 (i := 0) rfl (E rfl rfl) rfl) ?_
  refine AWL.y rfl rfl (B rfl) (Yv.fieldBox rfl fo_23_0 (E rfl rfl)) ?_
  refine AWL.y rfl rfl (B rfl) (Yv.loadBox rfl ag_3 (i := 1) rfl (E rfl rfl) rfl) ?_
  refine AWL.y rfl rfl (B rfl) (Yv.eql rfl (E rfl rfl) (E rfl rfl)) ?_
  refine AWL.y rfl rfl (B rfl) (Yv.move rfl (E rfl rfl)) ?_
  refine AWL.ygT rfl rfl rfl rfl (B rfl) (Yv.fieldBox rfl fo_45_1 (E rfl rfl)) ?_
  refine AWL.ygT rfl rfl rfl rfl (B rfl) (Yv.loadBox rfl ag_3 (i := 0) rfl (Eg rfl rfl id) rfl) ?_
  refine AWL.ygT rfl rfl rfl rfl (B rfl) (Yv.fieldBox rfl fo_23_4 (E rfl rfl)) ?_
  refine AWL.ygT rfl rfl rfl rfl (B rfl) (Yv.loadBox rfl ag_3 (i := 1) rfl (Eg rfl rfl id) rfl) ?_
  refine AWL.ygT rfl rfl rfl rfl (B rfl) (Yv.eql rfl (Eg rfl rfl id) (Eg rfl rfl id)) ?_
  refine AWL.y rfl rfl (B rfl) (Yv.pickAnd rfl (E rfl rfl) (Eg rfl rfl id)) ?_
  refine AWL.y rfl rfl (B rfl) (Yv.move rfl (E rfl rfl)) ?_
  refine AWL.ygT rfl rfl rfl rfl (B rfl) (Yv.move rfl (E rfl rfl)) ?_
  refine AWL.y rfl rfl (B rfl) (Yv.pickAnd rfl (E rfl rfl) (Eg rfl rfl id)) ?_
  refine AWL.y rfl rfl (B rfl) (Yv.move rfl (E rfl rfl)) ?_
  refine AWL.ygT rfl rfl rfl rfl (B rfl) (Yv.move rfl (E rfl rfl)) ?_
  refine AWL.y rfl rfl (B rfl) (Yv.pickAnd rfl (E rfl rfl) (Eg rfl rfl id)) ?_
  refine AWL.y rfl rfl (B rfl) (Yv.move rfl (E rfl rfl)) ?_
  refine AWL.ygT rfl rfl rfl rfl (B rfl) (Yv.move rfl (E rfl rfl)) ?_
  refine AWL.y rfl rfl (B rfl) (Yv.pickAnd rfl (E rfl rfl) (Eg rfl rfl id)) ?_
  refine AWL.y rfl rfl (B rfl) (Yv.move rfl (E rfl rfl)) ?_
  refine AWL.ygT rfl rfl rfl rfl (B rfl) (Yv.move rfl (E rfl rfl)) ?_
  refine AWL.y rfl rfl (B rfl) (Yv.pickAnd rfl (E rfl rfl) (Eg rfl rfl id)) ?_
  refine AWL.y rfl rfl (B rfl) (Yv.assign rfl (E rfl rfl)) ?_
  refine AWL.nil ?_
  refine AW.ret (retI (.tmp rfl .nil) ?_)
  rfl

set_option maxHeartbeats 400000 in
theorem at71 (f : FormF) (i : Ins) (p : Int) :
    ACalls Tryd.prog 54 [formT f, insT i, .v (.int .i64 p)] [] fun t_ S => t_ = .v (.int .i64 (atF f i p)) := by
  refine ACalls.intro Tryd.func54 rfl Tryd.ntmps54 (Nat.le_of_ble_eq_true rfl) rfl fun X w0 => ?_
  refine AW.rseq ?_
  refine AWL.boxOp rfl rfl (B rfl) rfl (E rfl rfl) rfl (fun b3 => ?_)
  refine AWL.boxOp rfl rfl (B rfl) rfl (E rfl rfl) rfl (fun b4 => ?_)
  refine AWL.y rfl rfl (B rfl) (Yv.assign rfl (E rfl rfl)) ?_
  refine AWL.nil ?_
  refine AW.seq ?_
  refine AW.rseq ?_
  refine AWL.y rfl rfl (B rfl) (Yv.fieldBox rfl fo_45_8 (E rfl rfl)) ?_
  refine AWL.y rfl rfl (B rfl) (Yv.loadBox rfl ag_3 (i := 0) rfl (E rfl rfl) rfl) ?_
  refine AWL.y rfl rfl (B rfl) (Yv.move rfl (E rfl rfl)) ?_
  refine AWL.y rfl rfl (B rfl) (Yv.eql rfl (E rfl rfl) (E rfl rfl)) ?_
  refine AWL.nil ?_
  refine AW.cond rfl (fun h0t => ?_) (fun h0f => ?_)
  ·
   try replace h0t := of_decide_eq_true h0t
   refine AW.rseq ?_
   refine AWL.y rfl rfl (B rfl) (Yv.fieldBox rfl fo_23_1 (E rfl rfl)) ?_
   refine AWL.y rfl rfl (B rfl) (Yv.loadBox rfl ag_3 (i := 1) rfl (E rfl rfl) rfl) ?_
   refine AWL.y rfl rfl (B rfl) (Yv.assign rfl (E rfl rfl)) ?_
   refine AWL.nil ?_
   refine AW.ret (retI (.tmp rfl .nil) ?_)
   show T.v (.int .i64 _) = T.v (.int .i64 _)
   rw [atF, if_pos h0t]
  try replace h0f := of_decide_eq_false h0f
  refine AW.skip ?_
  refine AW.seq ?_
  refine AW.rseq ?_
  refine AWL.y rfl rfl (B rfl) (Yv.fieldBox rfl fo_45_9 (E rfl rfl)) ?_
  refine AWL.y rfl rfl (B rfl) (Yv.loadBox rfl ag_3 (i := 0) rfl (E rfl rfl) rfl) ?_
  refine AWL.y rfl rfl (B rfl) (Yv.move rfl (E rfl rfl)) ?_
  refine AWL.y rfl rfl (B rfl) (Yv.eql rfl (E rfl rfl) (E rfl rfl)) ?_
  refine AWL.nil ?_
  refine AW.cond rfl (fun h1t => ?_) (fun h1f => ?_)
  ·
   try replace h1t := of_decide_eq_true h1t
   refine AW.rseq ?_
   refine AWL.y rfl rfl (B rfl) (Yv.fieldBox rfl fo_23_2 (E rfl rfl)) ?_
   refine AWL.y rfl rfl (B rfl) (Yv.loadBox rfl ag_3 (i := 1) rfl (E rfl rfl) rfl) ?_
   refine AWL.y rfl rfl (B rfl) (Yv.assign rfl (E rfl rfl)) ?_
   refine AWL.nil ?_
   refine AW.ret (retI (.tmp rfl .nil) ?_)
   show T.v (.int .i64 _) = T.v (.int .i64 _)
   rw [atF, if_neg h0f, if_pos h1t]
  try replace h1f := of_decide_eq_false h1f
  refine AW.skip ?_
  refine AW.rseq ?_
  refine AWL.y rfl rfl (B rfl) (Yv.assign rfl (E rfl rfl)) ?_
  refine AWL.nil ?_
  refine AW.ret (retI (.tmp rfl .nil) ?_)
  show T.v (.int .i64 _) = T.v (.int .i64 _)
  rw [atF, if_neg h0f, if_neg h1f]

set_option maxHeartbeats 2000000 in
theorem plain56 (k d s : Int) (o : List T) :
    ACalls Tryd.prog 48 [.v (.int .i64 k), .v (.int .i64 d), .v (.int .i64 s), .sl 1 o] [] fun t_ S => t_ = .agg [.v (.int .i64 k), .v (.int .i64 0), .v (.int .i64 0), .v (.bool true), .v (.int .i64 1), .sl 1 o, .v (.int .i64 3), .v (.int .i64 0), .v (.int .i64 d), .v (.int .i64 s), .v (.int .i64 0), .v (.int .i64 0)] := by
  refine ACalls.intro Tryd.func48 rfl Tryd.ntmps48 (Nat.le_of_ble_eq_true rfl) rfl fun X w0 => ?_
  refine AW.rseq ?_
  refine AWL.allocOp rfl rfl (B rfl) rfl zc_45 (fun b8 => ?_)
  refine AWL.nil ?_
  refine AW.rseq ?_
  refine AWL.y rfl rfl (B rfl) (Yv.move rfl (E rfl rfl)) ?_
  refine AWL.y rfl rfl (B rfl) (Yv.move rfl (E rfl rfl)) ?_
  refine AWL.y rfl rfl (B rfl) (Yv.move rfl (E rfl rfl)) ?_
  refine AWL.y rfl rfl (B rfl) (Yv.move rfl (E rfl rfl)) ?_
  refine AWL.y rfl rfl (B rfl) (Yv.buildS (cs := [.v (.int .i64 k), .v (.int .i64 0), .v (.int .i64 0), .v (.bool true), .v (.int .i64 1), .sl 1 o, .v (.int .i64 3), .v (.int .i64 0), .v (.int .i64 d), .v (.int .i64 s), .v (.int .i64 0), .v (.int .i64 0)]) rfl sh_45 (evpC (E rfl rfl) (evpC (E rfl rfl) (evpC (E rfl rfl) (evpC (E rfl rfl) (evpC (E rfl rfl) (evpC (E rfl rfl) (evpC (E rfl rfl) evp0))))))) (fun _ => by kernel_rfl)) ?_
  refine AWL.storeBox (i := 0) rfl rfl rfl ag_45 rfl (E rfl rfl) (E rfl rfl) rfl rfl (Nat.le_of_ble_eq_true rfl) ?_
  refine AWL.nil ?_
  refine AW.ret (retI (.cellA (i := 0) rfl ag_45 rfl rfl rfl .nil) ?_)
  rfl

set_option maxHeartbeats 2000000 in
theorem digit57 (k n m o : Int) :
    ACalls Tryd.prog 49 [.v (.int .i64 k), .v (.int .i64 n), .v (.int .i64 m), .v (.int .i64 o)] [] fun t_ S => t_ = .agg [.v (.int .i64 k), .v (.int .i64 0), .v (.int .i64 0), .v (.bool true), .v (.int .i64 1), .sl 1 [.v (.int .i64 o)], .v (.int .i64 3), .v (.int .i64 n), .v (.int .i64 2), .v (.int .i64 0), .v (.int .i64 0), .v (.int .i64 m)] := by
  refine ACalls.intro Tryd.func49 rfl Tryd.ntmps49 (Nat.le_of_ble_eq_true rfl) rfl fun X w0 => ?_
  refine AW.rseq ?_
  refine AWL.allocOp rfl rfl (B rfl) rfl zc_45 (fun b8 => ?_)
  refine AWL.nil ?_
  refine AW.rseq ?_
  refine AWL.y rfl rfl (B rfl) (Yv.move rfl (E rfl rfl)) ?_
  refine AWL.y rfl rfl (B rfl) (Yv.move rfl (E rfl rfl)) ?_
  refine AWL.buildSlice1 rfl rfl (B rfl) rfl el_43 rfl (evsC (E rfl rfl) evs0) (Nat.le_of_ble_eq_true rfl) rfl rfl ?_
  refine AWL.y rfl rfl (B rfl) (Yv.move rfl (E rfl rfl)) ?_
  refine AWL.y rfl rfl (B rfl) (Yv.move rfl (E rfl rfl)) ?_
  refine AWL.y rfl rfl (B rfl) (Yv.buildS (cs := [.v (.int .i64 k), .v (.int .i64 0), .v (.int .i64 0), .v (.bool true), .v (.int .i64 1), .sl 1 [.v (.int .i64 o)], .v (.int .i64 3), .v (.int .i64 n), .v (.int .i64 2), .v (.int .i64 0), .v (.int .i64 0), .v (.int .i64 m)]) rfl sh_45 (evpC (E rfl rfl) (evpC (E rfl rfl) (evpC (E rfl rfl) (evpC (E rfl rfl) (evpC (E rfl rfl) (evpC (E rfl rfl) (evpC (E rfl rfl) (evpC (E rfl rfl) evp0)))))))) (fun _ => by kernel_rfl)) ?_
  refine AWL.storeBox (i := 0) rfl rfl rfl ag_45 rfl (E rfl rfl) (E rfl rfl) rfl rfl (Nat.le_of_ble_eq_true rfl) ?_
  refine AWL.nil ?_
  refine AW.ret (retI (.cellA (i := 0) rfl ag_45 rfl rfl rfl .nil) ?_)
  rfl

set_option maxHeartbeats 2000000 in
theorem mem58 (k z w d s : Int) (o : List T) :
    ACalls Tryd.prog 50 [.v (.int .i64 k), .v (.int .i64 z), .v (.int .i64 w), .v (.int .i64 d), .v (.int .i64 s), .sl 1 o] [] fun t_ S => t_ = .agg [.v (.int .i64 k), .v (.int .i64 z), .v (.int .i64 0), .v (.bool true), .v (.int .i64 w), .sl 1 o, .v (.int .i64 2), .v (.int .i64 0), .v (.int .i64 d), .v (.int .i64 s), .v (.int .i64 0), .v (.int .i64 6)] := by
  refine ACalls.intro Tryd.func50 rfl Tryd.ntmps50 (Nat.le_of_ble_eq_true rfl) rfl fun X w0 => ?_
  refine AW.rseq ?_
  refine AWL.allocOp rfl rfl (B rfl) rfl zc_45 (fun b12 => ?_)
  refine AWL.nil ?_
  refine AW.rseq ?_
  refine AWL.y rfl rfl (B rfl) (Yv.move rfl (E rfl rfl)) ?_
  refine AWL.y rfl rfl (B rfl) (Yv.move rfl (E rfl rfl)) ?_
  refine AWL.y rfl rfl (B rfl) (Yv.move rfl (E rfl rfl)) ?_
  refine AWL.y rfl rfl (B rfl) (Yv.move rfl (E rfl rfl)) ?_
  refine AWL.y rfl rfl (B rfl) (Yv.move rfl (E rfl rfl)) ?_
  refine AWL.y rfl rfl (B rfl) (Yv.move rfl (E rfl rfl)) ?_
  refine AWL.y rfl rfl (B rfl) (Yv.buildS (cs := [.v (.int .i64 k), .v (.int .i64 z), .v (.int .i64 0), .v (.bool true), .v (.int .i64 w), .sl 1 o, .v (.int .i64 2), .v (.int .i64 0), .v (.int .i64 d), .v (.int .i64 s), .v (.int .i64 0), .v (.int .i64 6)]) rfl sh_45 (evpC (E rfl rfl) (evpC (E rfl rfl) (evpC (E rfl rfl) (evpC (E rfl rfl) (evpC (E rfl rfl) (evpC (E rfl rfl) (evpC (E rfl rfl) (evpC (E rfl rfl) (evpC (E rfl rfl) evp0))))))))) (fun _ => by kernel_rfl)) ?_
  refine AWL.storeBox (i := 0) rfl rfl rfl ag_45 rfl (E rfl rfl) (E rfl rfl) rfl rfl (Nat.le_of_ble_eq_true rfl) ?_
  refine AWL.nil ?_
  refine AW.ret (retI (.cellA (i := 0) rfl ag_45 rfl rfl rfl .nil) ?_)
  rfl

set_option maxHeartbeats 2000000 in
theorem real59 (k f w d s o : Int) :
    ACalls Tryd.prog 51 [.v (.int .i64 k), .v (.int .i64 f), .v (.int .i64 w), .v (.int .i64 d), .v (.int .i64 s), .v (.int .i64 o)] [] fun t_ S => t_ = .agg [.v (.int .i64 k), .v (.int .i64 0), .v (.int .i64 f), .v (.bool true), .v (.int .i64 w), .sl 1 [.v (.int .i64 15), .v (.int .i64 o)], .v (.int .i64 3), .v (.int .i64 0), .v (.int .i64 d), .v (.int .i64 s), .v (.int .i64 0), .v (.int .i64 0)] := by
  refine ACalls.intro Tryd.func51 rfl Tryd.ntmps51 (Nat.le_of_ble_eq_true rfl) rfl fun X w0 => ?_
  refine AW.rseq ?_
  refine AWL.allocOp rfl rfl (B rfl) rfl zc_45 (fun b12 => ?_)
  refine AWL.nil ?_
  refine AW.rseq ?_
  refine AWL.y rfl rfl (B rfl) (Yv.move rfl (E rfl rfl)) ?_
  refine AWL.y rfl rfl (B rfl) (Yv.move rfl (E rfl rfl)) ?_
  refine AWL.y rfl rfl (B rfl) (Yv.move rfl (E rfl rfl)) ?_
  refine AWL.y rfl rfl (B rfl) (Yv.move rfl (E rfl rfl)) ?_
  refine AWL.buildSlice1 rfl rfl (B rfl) rfl el_43 rfl (evsC (E rfl rfl) (evsC (E rfl rfl) evs0)) (Nat.le_of_ble_eq_true rfl) rfl rfl ?_
  refine AWL.y rfl rfl (B rfl) (Yv.move rfl (E rfl rfl)) ?_
  refine AWL.y rfl rfl (B rfl) (Yv.move rfl (E rfl rfl)) ?_
  refine AWL.y rfl rfl (B rfl) (Yv.buildS (cs := [.v (.int .i64 k), .v (.int .i64 0), .v (.int .i64 f), .v (.bool true), .v (.int .i64 w), .sl 1 [.v (.int .i64 15), .v (.int .i64 o)], .v (.int .i64 3), .v (.int .i64 0), .v (.int .i64 d), .v (.int .i64 s), .v (.int .i64 0), .v (.int .i64 0)]) rfl sh_45 (evpC (E rfl rfl) (evpC (E rfl rfl) (evpC (E rfl rfl) (evpC (E rfl rfl) (evpC (E rfl rfl) (evpC (E rfl rfl) (evpC (E rfl rfl) (evpC (E rfl rfl) evp0)))))))) (fun _ => by kernel_rfl)) ?_
  refine AWL.storeBox (i := 0) rfl rfl rfl ag_45 rfl (E rfl rfl) (E rfl rfl) rfl rfl (Nat.le_of_ble_eq_true rfl) ?_
  refine AWL.nil ?_
  refine AW.ret (retI (.cellA (i := 0) rfl ag_45 rfl rfl rfl .nil) ?_)
  rfl

set_option maxRecDepth 4000 in
set_option maxHeartbeats 4000000 in
theorem forms50  :
    ACalls Tryd.prog 23 [] [] fun t_ S => t_ = .sl 12 (formsF.flatMap formCells) := by
  refine ACalls.intro Tryd.func23 rfl Tryd.ntmps23 (Nat.le_of_ble_eq_true rfl) rfl fun X w0 => ?_
  refine AW.rseq ?_
  refine AWL.y rfl rfl (B rfl) (Yv.assign rfl (E rfl rfl)) ?_
  refine AWL.nil ?_
  refine AW.rseq ?_
  refine AWL.buildSlice1 rfl rfl (B rfl) rfl el_43 rfl (evsC (E rfl rfl) evs0) (Nat.le_of_ble_eq_true rfl) rfl rfl ?_
  refine AWL.callT rfl rfl (B rfl) rfl ce_48 (E rfl rfl) (evsC (E rfl rfl) (evsC (E rfl rfl) (evsC (E rfl rfl) (evsC (E rfl rfl) evs0)))) (plain56 _ _ _ _) ?_
  rintro t2 S2 rfl
  refine AWL.callT rfl rfl (B rfl) rfl ce_49 (E rfl rfl) (evsC (E rfl rfl) (evsC (E rfl rfl) (evsC (E rfl rfl) (evsC (E rfl rfl) evs0)))) (digit57 _ _ _ _) ?_
  rintro t3 S3 rfl
  refine AWL.buildSlice1 rfl rfl (B rfl) rfl el_43 rfl (evsC (E rfl rfl) evs0) (Nat.le_of_ble_eq_true rfl) rfl rfl ?_
  refine AWL.y rfl rfl (B rfl) (Yv.buildS (cs := [.v (.int .i64 (2)), .v (.int .i64 (0)), .v (.int .i64 (0)), .v (.bool true), .v (.int .i64 (1)), .sl 1 [.v (.int .i64 184)], .v (.int .i64 (-1)), .v (.int .i64 (0)), .v (.int .i64 (3)), .v (.int .i64 (0)), .v (.int .i64 (0)), .v (.int .i64 (7))]) rfl sh_45 (evpC (E rfl rfl) (evpC (E rfl rfl) (evpC (E rfl rfl) (evpC (E rfl rfl) (evpC (E rfl rfl) (evpC (E rfl rfl) (evpC (E rfl rfl) evp0))))))) (fun _ => by kernel_rfl)) ?_
  refine AWL.buildSlice1 rfl rfl (B rfl) rfl el_43 rfl (evsC (E rfl rfl) evs0) (Nat.le_of_ble_eq_true rfl) rfl rfl ?_
  refine AWL.callT rfl rfl (B rfl) rfl ce_50 (E rfl rfl) (evsC (E rfl rfl) (evsC (E rfl rfl) (evsC (E rfl rfl) (evsC (E rfl rfl) (evsC (E rfl rfl) (evsC (E rfl rfl) evs0)))))) (mem58 _ _ _ _ _ _) ?_
  rintro t7 S7 rfl
  refine AWL.buildSlice1 rfl rfl (B rfl) rfl el_43 rfl (evsC (E rfl rfl) evs0) (Nat.le_of_ble_eq_true rfl) rfl rfl ?_
  refine AWL.callT rfl rfl (B rfl) rfl ce_50 (E rfl rfl) (evsC (E rfl rfl) (evsC (E rfl rfl) (evsC (E rfl rfl) (evsC (E rfl rfl) (evsC (E rfl rfl) (evsC (E rfl rfl) evs0)))))) (mem58 _ _ _ _ _ _) ?_
  rintro t9 S9 rfl
  refine AWL.buildSlice1 rfl rfl (B rfl) rfl el_43 rfl (evsC (E rfl rfl) (evsC (E rfl rfl) evs0)) (Nat.le_of_ble_eq_true rfl) rfl rfl ?_
  refine AWL.callT rfl rfl (B rfl) rfl ce_50 (E rfl rfl) (evsC (E rfl rfl) (evsC (E rfl rfl) (evsC (E rfl rfl) (evsC (E rfl rfl) (evsC (E rfl rfl) (evsC (E rfl rfl) evs0)))))) (mem58 _ _ _ _ _ _) ?_
  rintro t11 S11 rfl
  refine AWL.buildSlice1 rfl rfl (B rfl) rfl el_43 rfl (evsC (E rfl rfl) evs0) (Nat.le_of_ble_eq_true rfl) rfl rfl ?_
  refine AWL.callT rfl rfl (B rfl) rfl ce_50 (E rfl rfl) (evsC (E rfl rfl) (evsC (E rfl rfl) (evsC (E rfl rfl) (evsC (E rfl rfl) (evsC (E rfl rfl) (evsC (E rfl rfl) evs0)))))) (mem58 _ _ _ _ _ _) ?_
  rintro t13 S13 rfl
  refine AWL.buildSlice1 rfl rfl (B rfl) rfl el_43 rfl (evsC (E rfl rfl) evs0) (Nat.le_of_ble_eq_true rfl) rfl rfl ?_
  refine AWL.callT rfl rfl (B rfl) rfl ce_50 (E rfl rfl) (evsC (E rfl rfl) (evsC (E rfl rfl) (evsC (E rfl rfl) (evsC (E rfl rfl) (evsC (E rfl rfl) (evsC (E rfl rfl) evs0)))))) (mem58 _ _ _ _ _ _) ?_
  rintro t15 S15 rfl
  refine AWL.buildSlice1 rfl rfl (B rfl) rfl el_43 rfl (evsC (E rfl rfl) evs0) (Nat.le_of_ble_eq_true rfl) rfl rfl ?_
  refine AWL.callT rfl rfl (B rfl) rfl ce_50 (E rfl rfl) (evsC (E rfl rfl) (evsC (E rfl rfl) (evsC (E rfl rfl) (evsC (E rfl rfl) (evsC (E rfl rfl) (evsC (E rfl rfl) evs0)))))) (mem58 _ _ _ _ _ _) ?_
  rintro t17 S17 rfl
  refine AWL.buildSlice1 rfl rfl (B rfl) rfl el_43 rfl (evsC (E rfl rfl) evs0) (Nat.le_of_ble_eq_true rfl) rfl rfl ?_
  refine AWL.callT rfl rfl (B rfl) rfl ce_50 (E rfl rfl) (evsC (E rfl rfl) (evsC (E rfl rfl) (evsC (E rfl rfl) (evsC (E rfl rfl) (evsC (E rfl rfl) (evsC (E rfl rfl) evs0)))))) (mem58 _ _ _ _ _ _) ?_
  rintro t19 S19 rfl
  refine AWL.buildSlice1 rfl rfl (B rfl) rfl el_43 rfl (evsC (E rfl rfl) evs0) (Nat.le_of_ble_eq_true rfl) rfl rfl ?_
  refine AWL.callT rfl rfl (B rfl) rfl ce_48 (E rfl rfl) (evsC (E rfl rfl) (evsC (E rfl rfl) (evsC (E rfl rfl) (evsC (E rfl rfl) evs0)))) (plain56 _ _ _ _) ?_
  rintro t21 S21 rfl
  refine AWL.buildSlice1 rfl rfl (B rfl) rfl el_43 rfl (evsC (E rfl rfl) evs0) (Nat.le_of_ble_eq_true rfl) rfl rfl ?_
  refine AWL.callT rfl rfl (B rfl) rfl ce_48 (E rfl rfl) (evsC (E rfl rfl) (evsC (E rfl rfl) (evsC (E rfl rfl) (evsC (E rfl rfl) evs0)))) (plain56 _ _ _ _) ?_
  rintro t23 S23 rfl
  refine AWL.buildSlice1 rfl rfl (B rfl) rfl el_43 rfl (evsC (E rfl rfl) evs0) (Nat.le_of_ble_eq_true rfl) rfl rfl ?_
  refine AWL.callT rfl rfl (B rfl) rfl ce_48 (E rfl rfl) (evsC (E rfl rfl) (evsC (E rfl rfl) (evsC (E rfl rfl) (evsC (E rfl rfl) evs0)))) (plain56 _ _ _ _) ?_
  rintro t25 S25 rfl
  refine AWL.buildSlice1 rfl rfl (B rfl) rfl el_43 rfl (evsC (E rfl rfl) evs0) (Nat.le_of_ble_eq_true rfl) rfl rfl ?_
  refine AWL.callT rfl rfl (B rfl) rfl ce_48 (E rfl rfl) (evsC (E rfl rfl) (evsC (E rfl rfl) (evsC (E rfl rfl) (evsC (E rfl rfl) evs0)))) (plain56 _ _ _ _) ?_
  rintro t27 S27 rfl
  refine AWL.buildSlice1 rfl rfl (B rfl) rfl el_43 rfl (evsC (E rfl rfl) evs0) (Nat.le_of_ble_eq_true rfl) rfl rfl ?_
  refine AWL.callT rfl rfl (B rfl) rfl ce_48 (E rfl rfl) (evsC (E rfl rfl) (evsC (E rfl rfl) (evsC (E rfl rfl) (evsC (E rfl rfl) evs0)))) (plain56 _ _ _ _) ?_
  rintro t29 S29 rfl
  refine AWL.buildSlice1 rfl rfl (B rfl) rfl el_43 rfl (evsC (E rfl rfl) evs0) (Nat.le_of_ble_eq_true rfl) rfl rfl ?_
  refine AWL.callT rfl rfl (B rfl) rfl ce_48 (E rfl rfl) (evsC (E rfl rfl) (evsC (E rfl rfl) (evsC (E rfl rfl) (evsC (E rfl rfl) evs0)))) (plain56 _ _ _ _) ?_
  rintro t31 S31 rfl
  refine AWL.buildSlice1 rfl rfl (B rfl) rfl el_43 rfl (evsC (E rfl rfl) evs0) (Nat.le_of_ble_eq_true rfl) rfl rfl ?_
  refine AWL.callT rfl rfl (B rfl) rfl ce_48 (E rfl rfl) (evsC (E rfl rfl) (evsC (E rfl rfl) (evsC (E rfl rfl) (evsC (E rfl rfl) evs0)))) (plain56 _ _ _ _) ?_
  rintro t33 S33 rfl
  refine AWL.buildSlice1 rfl rfl (B rfl) rfl el_43 rfl (evsC (E rfl rfl) evs0) (Nat.le_of_ble_eq_true rfl) rfl rfl ?_
  refine AWL.callT rfl rfl (B rfl) rfl ce_48 (E rfl rfl) (evsC (E rfl rfl) (evsC (E rfl rfl) (evsC (E rfl rfl) (evsC (E rfl rfl) evs0)))) (plain56 _ _ _ _) ?_
  rintro t35 S35 rfl
  refine AWL.buildSlice1 rfl rfl (B rfl) rfl el_43 rfl (evsC (E rfl rfl) evs0) (Nat.le_of_ble_eq_true rfl) rfl rfl ?_
  refine AWL.callT rfl rfl (B rfl) rfl ce_48 (E rfl rfl) (evsC (E rfl rfl) (evsC (E rfl rfl) (evsC (E rfl rfl) (evsC (E rfl rfl) evs0)))) (plain56 _ _ _ _) ?_
  rintro t37 S37 rfl
  refine AWL.callT rfl rfl (B rfl) rfl ce_49 (E rfl rfl) (evsC (E rfl rfl) (evsC (E rfl rfl) (evsC (E rfl rfl) (evsC (E rfl rfl) evs0)))) (digit57 _ _ _ _) ?_
  rintro t38 S38 rfl
  refine AWL.callT rfl rfl (B rfl) rfl ce_49 (E rfl rfl) (evsC (E rfl rfl) (evsC (E rfl rfl) (evsC (E rfl rfl) (evsC (E rfl rfl) evs0)))) (digit57 _ _ _ _) ?_
  rintro t39 S39 rfl
  refine AWL.callT rfl rfl (B rfl) rfl ce_49 (E rfl rfl) (evsC (E rfl rfl) (evsC (E rfl rfl) (evsC (E rfl rfl) (evsC (E rfl rfl) evs0)))) (digit57 _ _ _ _) ?_
  rintro t40 S40 rfl
  refine AWL.callT rfl rfl (B rfl) rfl ce_49 (E rfl rfl) (evsC (E rfl rfl) (evsC (E rfl rfl) (evsC (E rfl rfl) (evsC (E rfl rfl) evs0)))) (digit57 _ _ _ _) ?_
  rintro t41 S41 rfl
  refine AWL.callT rfl rfl (B rfl) rfl ce_49 (E rfl rfl) (evsC (E rfl rfl) (evsC (E rfl rfl) (evsC (E rfl rfl) (evsC (E rfl rfl) evs0)))) (digit57 _ _ _ _) ?_
  rintro t42 S42 rfl
  refine AWL.callT rfl rfl (B rfl) rfl ce_49 (E rfl rfl) (evsC (E rfl rfl) (evsC (E rfl rfl) (evsC (E rfl rfl) (evsC (E rfl rfl) evs0)))) (digit57 _ _ _ _) ?_
  rintro t43 S43 rfl
  refine AWL.buildSlice1 rfl rfl (B rfl) rfl el_43 rfl (evsC (E rfl rfl) (evsC (E rfl rfl) evs0)) (Nat.le_of_ble_eq_true rfl) rfl rfl ?_
  refine AWL.callT rfl rfl (B rfl) rfl ce_48 (E rfl rfl) (evsC (E rfl rfl) (evsC (E rfl rfl) (evsC (E rfl rfl) (evsC (E rfl rfl) evs0)))) (plain56 _ _ _ _) ?_
  rintro t45 S45 rfl
  refine AWL.callT rfl rfl (B rfl) rfl ce_49 (E rfl rfl) (evsC (E rfl rfl) (evsC (E rfl rfl) (evsC (E rfl rfl) (evsC (E rfl rfl) evs0)))) (digit57 _ _ _ _) ?_
  rintro t46 S46 rfl
  refine AWL.callT rfl rfl (B rfl) rfl ce_49 (E rfl rfl) (evsC (E rfl rfl) (evsC (E rfl rfl) (evsC (E rfl rfl) (evsC (E rfl rfl) evs0)))) (digit57 _ _ _ _) ?_
  rintro t47 S47 rfl
  refine AWL.callT rfl rfl (B rfl) rfl ce_49 (E rfl rfl) (evsC (E rfl rfl) (evsC (E rfl rfl) (evsC (E rfl rfl) (evsC (E rfl rfl) evs0)))) (digit57 _ _ _ _) ?_
  rintro t48 S48 rfl
  refine AWL.callT rfl rfl (B rfl) rfl ce_49 (E rfl rfl) (evsC (E rfl rfl) (evsC (E rfl rfl) (evsC (E rfl rfl) (evsC (E rfl rfl) evs0)))) (digit57 _ _ _ _) ?_
  rintro t49 S49 rfl
  refine AWL.callT rfl rfl (B rfl) rfl ce_49 (E rfl rfl) (evsC (E rfl rfl) (evsC (E rfl rfl) (evsC (E rfl rfl) (evsC (E rfl rfl) evs0)))) (digit57 _ _ _ _) ?_
  rintro t50 S50 rfl
  refine AWL.callT rfl rfl (B rfl) rfl ce_49 (E rfl rfl) (evsC (E rfl rfl) (evsC (E rfl rfl) (evsC (E rfl rfl) (evsC (E rfl rfl) evs0)))) (digit57 _ _ _ _) ?_
  rintro t51 S51 rfl
  refine AWL.callT rfl rfl (B rfl) rfl ce_49 (E rfl rfl) (evsC (E rfl rfl) (evsC (E rfl rfl) (evsC (E rfl rfl) (evsC (E rfl rfl) evs0)))) (digit57 _ _ _ _) ?_
  rintro t52 S52 rfl
  refine AWL.callT rfl rfl (B rfl) rfl ce_49 (E rfl rfl) (evsC (E rfl rfl) (evsC (E rfl rfl) (evsC (E rfl rfl) (evsC (E rfl rfl) evs0)))) (digit57 _ _ _ _) ?_
  rintro t53 S53 rfl
  refine AWL.callT rfl rfl (B rfl) rfl ce_49 (E rfl rfl) (evsC (E rfl rfl) (evsC (E rfl rfl) (evsC (E rfl rfl) (evsC (E rfl rfl) evs0)))) (digit57 _ _ _ _) ?_
  rintro t54 S54 rfl
  refine AWL.callT rfl rfl (B rfl) rfl ce_49 (E rfl rfl) (evsC (E rfl rfl) (evsC (E rfl rfl) (evsC (E rfl rfl) (evsC (E rfl rfl) evs0)))) (digit57 _ _ _ _) ?_
  rintro t55 S55 rfl
  refine AWL.buildSlice1 rfl rfl (B rfl) rfl el_43 rfl (evsC (E rfl rfl) (evsC (E rfl rfl) evs0)) (Nat.le_of_ble_eq_true rfl) rfl rfl ?_
  refine AWL.y rfl rfl (B rfl) (Yv.buildS (cs := [.v (.int .i64 (32)), .v (.int .i64 (0)), .v (.int .i64 (0)), .v (.bool true), .v (.int .i64 (0)), .sl 1 [.v (.int .i64 15), .v (.int .i64 144)], .v (.int .i64 (3)), .v (.int .i64 (0)), .v (.int .i64 (2)), .v (.int .i64 (0)), .v (.int .i64 (4)), .v (.int .i64 (0))]) rfl sh_45 (evpC (E rfl rfl) (evpC (E rfl rfl) (evpC (E rfl rfl) (evpC (E rfl rfl) (evpC (E rfl rfl) (evpC (E rfl rfl) evp0)))))) (fun _ => by kernel_rfl)) ?_
  refine AWL.buildSlice1 rfl rfl (B rfl) rfl el_43 rfl (evsC (E rfl rfl) (evsC (E rfl rfl) evs0)) (Nat.le_of_ble_eq_true rfl) rfl rfl ?_
  refine AWL.callT rfl rfl (B rfl) rfl ce_48 (E rfl rfl) (evsC (E rfl rfl) (evsC (E rfl rfl) (evsC (E rfl rfl) (evsC (E rfl rfl) evs0)))) (plain56 _ _ _ _) ?_
  rintro t59 S59 rfl
  refine AWL.buildSlice1 rfl rfl (B rfl) rfl el_43 rfl (evsC (E rfl rfl) (evsC (E rfl rfl) evs0)) (Nat.le_of_ble_eq_true rfl) rfl rfl ?_
  refine AWL.y rfl rfl (B rfl) (Yv.buildS (cs := [.v (.int .i64 (34)), .v (.int .i64 (0)), .v (.int .i64 (0)), .v (.bool true), .v (.int .i64 (1)), .sl 1 [.v (.int .i64 15), .v (.int .i64 64)], .v (.int .i64 (3)), .v (.int .i64 (0)), .v (.int .i64 (1)), .v (.int .i64 (2)), .v (.int .i64 (4)), .v (.int .i64 (0))]) rfl sh_45 (evpC (E rfl rfl) (evpC (E rfl rfl) (evpC (E rfl rfl) (evpC (E rfl rfl) (evpC (E rfl rfl) (evpC (E rfl rfl) (evpC (E rfl rfl) (evpC (E rfl rfl) evp0)))))))) (fun _ => by kernel_rfl)) ?_
  refine AWL.buildSlice1 rfl rfl (B rfl) rfl el_43 rfl (evsC (E rfl rfl) evs0) (Nat.le_of_ble_eq_true rfl) rfl rfl ?_
  refine AWL.y rfl rfl (B rfl) (Yv.buildS (cs := [.v (.int .i64 (35)), .v (.int .i64 (1)), .v (.int .i64 (0)), .v (.bool false), .v (.int .i64 (0)), .sl 1 [.v (.int .i64 235)], .v (.int .i64 (-1)), .v (.int .i64 (0)), .v (.int .i64 (0)), .v (.int .i64 (0)), .v (.int .i64 (0)), .v (.int .i64 (5))]) rfl sh_45 (evpC (E rfl rfl) (evpC (E rfl rfl) (evpC (E rfl rfl) (evpC (E rfl rfl) (evpC (E rfl rfl) evp0))))) (fun _ => by kernel_rfl)) ?_
  refine AWL.buildSlice1 rfl rfl (B rfl) rfl el_43 rfl (evsC (E rfl rfl) evs0) (Nat.le_of_ble_eq_true rfl) rfl rfl ?_
  refine AWL.y rfl rfl (B rfl) (Yv.buildS (cs := [.v (.int .i64 (35)), .v (.int .i64 (4)), .v (.int .i64 (0)), .v (.bool false), .v (.int .i64 (0)), .sl 1 [.v (.int .i64 233)], .v (.int .i64 (-1)), .v (.int .i64 (0)), .v (.int .i64 (0)), .v (.int .i64 (0)), .v (.int .i64 (0)), .v (.int .i64 (6))]) rfl sh_45 (evpC (E rfl rfl) (evpC (E rfl rfl) (evpC (E rfl rfl) (evpC (E rfl rfl) (evpC (E rfl rfl) evp0))))) (fun _ => by kernel_rfl)) ?_
  refine AWL.buildSlice1 rfl rfl (B rfl) rfl el_43 rfl (evsC (E rfl rfl) evs0) (Nat.le_of_ble_eq_true rfl) rfl rfl ?_
  refine AWL.y rfl rfl (B rfl) (Yv.buildS (cs := [.v (.int .i64 (36)), .v (.int .i64 (1)), .v (.int .i64 (0)), .v (.bool false), .v (.int .i64 (0)), .sl 1 [.v (.int .i64 112)], .v (.int .i64 (-1)), .v (.int .i64 (0)), .v (.int .i64 (0)), .v (.int .i64 (0)), .v (.int .i64 (4)), .v (.int .i64 (5))]) rfl sh_45 (evpC (E rfl rfl) (evpC (E rfl rfl) (evpC (E rfl rfl) (evpC (E rfl rfl) (evpC (E rfl rfl) (evpC (E rfl rfl) evp0)))))) (fun _ => by kernel_rfl)) ?_
  refine AWL.buildSlice1 rfl rfl (B rfl) rfl el_43 rfl (evsC (E rfl rfl) (evsC (E rfl rfl) evs0)) (Nat.le_of_ble_eq_true rfl) rfl rfl ?_
  refine AWL.y rfl rfl (B rfl) (Yv.buildS (cs := [.v (.int .i64 (36)), .v (.int .i64 (4)), .v (.int .i64 (0)), .v (.bool false), .v (.int .i64 (0)), .sl 1 [.v (.int .i64 15), .v (.int .i64 128)], .v (.int .i64 (-1)), .v (.int .i64 (0)), .v (.int .i64 (0)), .v (.int .i64 (0)), .v (.int .i64 (4)), .v (.int .i64 (6))]) rfl sh_45 (evpC (E rfl rfl) (evpC (E rfl rfl) (evpC (E rfl rfl) (evpC (E rfl rfl) (evpC (E rfl rfl) (evpC (E rfl rfl) evp0)))))) (fun _ => by kernel_rfl)) ?_
  refine AWL.buildSlice1 rfl rfl (B rfl) rfl el_43 rfl (evsC (E rfl rfl) evs0) (Nat.le_of_ble_eq_true rfl) rfl rfl ?_
  refine AWL.y rfl rfl (B rfl) (Yv.buildS (cs := [.v (.int .i64 (37)), .v (.int .i64 (0)), .v (.int .i64 (0)), .v (.bool false), .v (.int .i64 (0)), .sl 1 [.v (.int .i64 232)], .v (.int .i64 (-1)), .v (.int .i64 (0)), .v (.int .i64 (0)), .v (.int .i64 (0)), .v (.int .i64 (0)), .v (.int .i64 (6))]) rfl sh_45 (evpC (E rfl rfl) (evpC (E rfl rfl) (evpC (E rfl rfl) (evpC (E rfl rfl) evp0)))) (fun _ => by kernel_rfl)) ?_
  refine AWL.buildSlice1 rfl rfl (B rfl) rfl el_43 rfl (evsC (E rfl rfl) evs0) (Nat.le_of_ble_eq_true rfl) rfl rfl ?_
  refine AWL.y rfl rfl (B rfl) (Yv.buildS (cs := [.v (.int .i64 (38)), .v (.int .i64 (0)), .v (.int .i64 (0)), .v (.bool true), .v (.int .i64 (0)), .sl 1 [.v (.int .i64 255)], .v (.int .i64 (3)), .v (.int .i64 (2)), .v (.int .i64 (2)), .v (.int .i64 (0)), .v (.int .i64 (0)), .v (.int .i64 (0))]) rfl sh_45 (evpC (E rfl rfl) (evpC (E rfl rfl) (evpC (E rfl rfl) (evpC (E rfl rfl) (evpC (E rfl rfl) (evpC (E rfl rfl) evp0)))))) (fun _ => by kernel_rfl)) ?_
  refine AWL.buildSlice1 rfl rfl (B rfl) rfl el_43 rfl (evsC (E rfl rfl) evs0) (Nat.le_of_ble_eq_true rfl) rfl rfl ?_
  refine AWL.y rfl rfl (B rfl) (Yv.buildS (cs := [.v (.int .i64 (39)), .v (.int .i64 (0)), .v (.int .i64 (0)), .v (.bool true), .v (.int .i64 (0)), .sl 1 [.v (.int .i64 255)], .v (.int .i64 (3)), .v (.int .i64 (4)), .v (.int .i64 (2)), .v (.int .i64 (0)), .v (.int .i64 (0)), .v (.int .i64 (0))]) rfl sh_45 (evpC (E rfl rfl) (evpC (E rfl rfl) (evpC (E rfl rfl) (evpC (E rfl rfl) (evpC (E rfl rfl) (evpC (E rfl rfl) evp0)))))) (fun _ => by kernel_rfl)) ?_
  refine AWL.buildSlice1 rfl rfl (B rfl) rfl el_43 rfl (evsC (E rfl rfl) evs0) (Nat.le_of_ble_eq_true rfl) rfl rfl ?_
  refine AWL.y rfl rfl (B rfl) (Yv.buildS (cs := [.v (.int .i64 (40)), .v (.int .i64 (0)), .v (.int .i64 (0)), .v (.bool false), .v (.int .i64 (0)), .sl 1 [.v (.int .i64 195)], .v (.int .i64 (-1)), .v (.int .i64 (0)), .v (.int .i64 (0)), .v (.int .i64 (0)), .v (.int .i64 (0)), .v (.int .i64 (0))]) rfl sh_45 (evpC (E rfl rfl) (evpC (E rfl rfl) (evpC (E rfl rfl) evp0))) (fun _ => by kernel_rfl)) ?_
  refine AWL.buildSlice1 rfl rfl (B rfl) rfl el_43 rfl (evsC (E rfl rfl) evs0) (Nat.le_of_ble_eq_true rfl) rfl rfl ?_
  refine AWL.y rfl rfl (B rfl) (Yv.buildS (cs := [.v (.int .i64 (41)), .v (.int .i64 (0)), .v (.int .i64 (0)), .v (.bool true), .v (.int .i64 (0)), .sl 1 [.v (.int .i64 80)], .v (.int .i64 (-1)), .v (.int .i64 (0)), .v (.int .i64 (3)), .v (.int .i64 (0)), .v (.int .i64 (0)), .v (.int .i64 (0))]) rfl sh_45 (evpC (E rfl rfl) (evpC (E rfl rfl) (evpC (E rfl rfl) (evpC (E rfl rfl) (evpC (E rfl rfl) evp0))))) (fun _ => by kernel_rfl)) ?_
  refine AWL.buildSlice1 rfl rfl (B rfl) rfl el_43 rfl (evsC (E rfl rfl) evs0) (Nat.le_of_ble_eq_true rfl) rfl rfl ?_
  refine AWL.y rfl rfl (B rfl) (Yv.buildS (cs := [.v (.int .i64 (42)), .v (.int .i64 (0)), .v (.int .i64 (0)), .v (.bool true), .v (.int .i64 (0)), .sl 1 [.v (.int .i64 88)], .v (.int .i64 (-1)), .v (.int .i64 (0)), .v (.int .i64 (3)), .v (.int .i64 (0)), .v (.int .i64 (0)), .v (.int .i64 (0))]) rfl sh_45 (evpC (E rfl rfl) (evpC (E rfl rfl) (evpC (E rfl rfl) (evpC (E rfl rfl) (evpC (E rfl rfl) evp0))))) (fun _ => by kernel_rfl)) ?_
  refine AWL.buildSlice1 rfl rfl (B rfl) rfl el_43 rfl (evsC (E rfl rfl) (evsC (E rfl rfl) evs0)) (Nat.le_of_ble_eq_true rfl) rfl rfl ?_
  refine AWL.y rfl rfl (B rfl) (Yv.buildS (cs := [.v (.int .i64 (43)), .v (.int .i64 (0)), .v (.int .i64 (0)), .v (.bool false), .v (.int .i64 (0)), .sl 1 [.v (.int .i64 15), .v (.int .i64 5)], .v (.int .i64 (-1)), .v (.int .i64 (0)), .v (.int .i64 (0)), .v (.int .i64 (0)), .v (.int .i64 (0)), .v (.int .i64 (0))]) rfl sh_45 (evpC (E rfl rfl) (evpC (E rfl rfl) (evpC (E rfl rfl) evp0))) (fun _ => by kernel_rfl)) ?_
  refine AWL.buildSlice1 rfl rfl (B rfl) rfl el_43 rfl (evsC (E rfl rfl) (evsC (E rfl rfl) evs0)) (Nat.le_of_ble_eq_true rfl) rfl rfl ?_
  refine AWL.y rfl rfl (B rfl) (Yv.buildS (cs := [.v (.int .i64 (44)), .v (.int .i64 (0)), .v (.int .i64 (0)), .v (.bool false), .v (.int .i64 (0)), .sl 1 [.v (.int .i64 15), .v (.int .i64 11)], .v (.int .i64 (-1)), .v (.int .i64 (0)), .v (.int .i64 (0)), .v (.int .i64 (0)), .v (.int .i64 (0)), .v (.int .i64 (0))]) rfl sh_45 (evpC (E rfl rfl) (evpC (E rfl rfl) (evpC (E rfl rfl) evp0))) (fun _ => by kernel_rfl)) ?_
  refine AWL.callT rfl rfl (B rfl) rfl ce_51 (E rfl rfl) (evsC (E rfl rfl) (evsC (E rfl rfl) (evsC (E rfl rfl) (evsC (E rfl rfl) (evsC (E rfl rfl) (evsC (E rfl rfl) evs0)))))) (real59 _ _ _ _ _ _) ?_
  rintro t86 S86 rfl
  refine AWL.callT rfl rfl (B rfl) rfl ce_51 (E rfl rfl) (evsC (E rfl rfl) (evsC (E rfl rfl) (evsC (E rfl rfl) (evsC (E rfl rfl) (evsC (E rfl rfl) (evsC (E rfl rfl) evs0)))))) (real59 _ _ _ _ _ _) ?_
  rintro t87 S87 rfl
  refine AWL.callT rfl rfl (B rfl) rfl ce_51 (E rfl rfl) (evsC (E rfl rfl) (evsC (E rfl rfl) (evsC (E rfl rfl) (evsC (E rfl rfl) (evsC (E rfl rfl) (evsC (E rfl rfl) evs0)))))) (real59 _ _ _ _ _ _) ?_
  rintro t88 S88 rfl
  refine AWL.callT rfl rfl (B rfl) rfl ce_51 (E rfl rfl) (evsC (E rfl rfl) (evsC (E rfl rfl) (evsC (E rfl rfl) (evsC (E rfl rfl) (evsC (E rfl rfl) (evsC (E rfl rfl) evs0)))))) (real59 _ _ _ _ _ _) ?_
  rintro t89 S89 rfl
  refine AWL.callT rfl rfl (B rfl) rfl ce_51 (E rfl rfl) (evsC (E rfl rfl) (evsC (E rfl rfl) (evsC (E rfl rfl) (evsC (E rfl rfl) (evsC (E rfl rfl) (evsC (E rfl rfl) evs0)))))) (real59 _ _ _ _ _ _) ?_
  rintro t90 S90 rfl
  refine AWL.callT rfl rfl (B rfl) rfl ce_51 (E rfl rfl) (evsC (E rfl rfl) (evsC (E rfl rfl) (evsC (E rfl rfl) (evsC (E rfl rfl) (evsC (E rfl rfl) (evsC (E rfl rfl) evs0)))))) (real59 _ _ _ _ _ _) ?_
  rintro t91 S91 rfl
  refine AWL.callT rfl rfl (B rfl) rfl ce_51 (E rfl rfl) (evsC (E rfl rfl) (evsC (E rfl rfl) (evsC (E rfl rfl) (evsC (E rfl rfl) (evsC (E rfl rfl) (evsC (E rfl rfl) evs0)))))) (real59 _ _ _ _ _ _) ?_
  rintro t92 S92 rfl
  refine AWL.callT rfl rfl (B rfl) rfl ce_51 (E rfl rfl) (evsC (E rfl rfl) (evsC (E rfl rfl) (evsC (E rfl rfl) (evsC (E rfl rfl) (evsC (E rfl rfl) (evsC (E rfl rfl) evs0)))))) (real59 _ _ _ _ _ _) ?_
  rintro t93 S93 rfl
  refine AWL.buildSliceE rfl rfl (B rfl) rfl el_41 (B rfl) rfl (evsC (E rfl rfl) (evsC (E rfl rfl) (evsC (E rfl rfl) (evsC (E rfl rfl) (evsC (E rfl rfl) (evsC (E rfl rfl) (evsC (E rfl rfl) (evsC (E rfl rfl) (evsC (E rfl rfl) (evsC (E rfl rfl) (evsC (E rfl rfl) (evsC (E rfl rfl) (evsC (E rfl rfl) (evsC (E rfl rfl) (evsC (E rfl rfl) (evsC (E rfl rfl) (evsC (E rfl rfl) (evsC (E rfl rfl) (evsC (E rfl rfl) (evsC (E rfl rfl) (evsC (E rfl rfl) (evsC (E rfl rfl) (evsC (E rfl rfl) (evsC (E rfl rfl) (evsC (E rfl rfl) (evsC (E rfl rfl) (evsC (E rfl rfl) (evsC (E rfl rfl) (evsC (E rfl rfl) (evsC (E rfl rfl) (evsC (E rfl rfl) (evsC (E rfl rfl) (evsC (E rfl rfl) (evsC (E rfl rfl) (evsC (E rfl rfl) (evsC (E rfl rfl) (evsC (E rfl rfl) (evsC (E rfl rfl) (evsC (E rfl rfl) (evsC (E rfl rfl) (evsC (E rfl rfl) (evsC (E rfl rfl) (evsC (E rfl rfl) (evsC (E rfl rfl) (evsC (E rfl rfl) (evsC (E rfl rfl) (evsC (E rfl rfl) (evsC (E rfl rfl) (evsC (E rfl rfl) (evsC (E rfl rfl) (evsC (E rfl rfl) (evsC (E rfl rfl) (evsC (E rfl rfl) (evsC (E rfl rfl) (evsC (E rfl rfl) (evsC (E rfl rfl) (evsC (E rfl rfl) (evsC (E rfl rfl) (evsC (E rfl rfl) evs0))))))))))))))))))))))))))))))))))))))))))))))))))))))))))) (Nat.le_of_ble_eq_true rfl) rfl rfl ?_
  refine AWL.y rfl rfl (B rfl) (Yv.assign rfl (E rfl rfl)) ?_
  refine AWL.nil ?_
  refine AW.ret (retI (.tmp rfl .nil) ?_)
  rfl

end Go.Proofs.YtjndpakhmgapjaaDoor
