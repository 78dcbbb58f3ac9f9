/-
  TEXTS JOINED: Wk20, Wk21, Asm, Form, Wk13.
-/
import Derived.Test.YtecpjlhbkmongaaGreatYd
set_option linter.unusedSimpArgs false
set_option linter.unusedVariables false
set_option linter.unusedSectionVars false
set_option linter.unnecessarySimpa false
namespace Go.Proofs.YtecpjlhbkmongaaGreat
open Go Go.RowKit

set_option maxHeartbeats 1000000 in
theorem moved75 (b : Nat) (bs : List UInt8) (r : Rd) (hb : bs.length ≤ 1099511627776) (hr : RdOk bs r) (x : Rx) :
    ACalls Tryz.prog 117 [pv b, rxT x] [Ent.box b 155 (rdCells bs r)] (fun t_ S => t_ = insT (movedR bs x r).1 ∧ ∃ E, S = Ent.box b 155 (rdCells bs (movedR bs x r).2) :: E) := by
 refine ACalls.intro Tryz.func117 rfl Tryz.ntmps117 nB rfl fun X w0 => ?_
 refine rs ?_
 refine AWL.boxOp rfl rfl (B rfl) rfl (E rfl rfl) rfl (fun b3 => ?_)
 refine AWL.allocOp rfl rfl (B rfl) rfl zc_57 (fun b4 => ?_)
 refine nl ?_
 refine AW.seq ?_
 refine AW.rseqQ rfl (by kernel_rfl) ?_
 refine qm ?_
 refine Q1 (Yv.nilChk rfl eV) ?_
 refine qf fo_155_1 ?_
 refine ql ag_3 0 ?_
 refine qm ?_
 refine Q1 (Yv.nilChk rfl eV) ?_
 refine qf fo_155_0 ?_
 refine ql ag_27 0 ?_
 refine Q1 (Yv.lenSl rfl so_27 (B rfl) eV len_u8s) ?_
 refine Q1 (Yv.lss rfl eV eV) ?_
 refine qm ?_
 refine kT (Yv.move rfl eV) ?_
 refine kT (Yv.nilChk rfl (Eg rfl rfl id)) ?_
 refine kT (Yv.fieldBox rfl fo_155_0 (Eg rfl rfl id)) ?_
 refine kT (Yv.loadBox rfl ag_27 (i := 0) rfl (Eg rfl rfl id) rfl) ?_
 refine kT (Yv.move rfl eV) ?_
 refine kT (Yv.nilChk rfl (Eg rfl rfl id)) ?_
 refine kT (Yv.fieldBox rfl fo_155_1 (Eg rfl rfl id)) ?_
 refine kT (Yv.loadBox rfl ag_3 (i := 0) rfl (Eg rfl rfl id) rfl) ?_
 refine kT (Yv.indexSl rfl ss_27 (B rfl) (Eg rfl rfl id) (Eg rfl rfl id) (fun hg => ⟨rfl, (by first | omega | (simp only [len_u8s, len_ints]; omega) | (simp only [len_u8s, len_ints]; simp only [Bool.and_eq_true, Bool.or_eq_false_iff, Bool.not_eq_true', Bool.not_eq_false', decide_eq_true_eq, decide_eq_false_iff_not] at hg; omega))⟩)) ?_
 refine kT (Yv.loadRp rfl ag_5 (Eg rfl rfl id) (fun hg => u8_get (by simp only [Bool.true_and, decide_eq_true_eq] at hg; omega))) ?_
 refine kT (Yv.shrC 64 (by decide) (by decide) (by decide) rfl (Eg rfl rfl id) (E rfl rfl)) ?_
 refine kT (Yv.eql rfl (Eg rfl rfl id) eV) ?_
 refine Q1 (Yv.pickAnd rfl eV (Eg rfl rfl id)) ?_
 refine AWQ.nil ?_
 refine AW.cond rfl (fun h0t => ?_) (fun h0f => ?_)
 ·
  try replace h0t := odt h0t
  refine rs (ym ?_)
  refine Y1 (Yv.loadBoxA rfl ag_183 (i := 1) rfl eV rfl rfl) ?_
  refine C1 rfl ce_116 (E rfl rfl) (evsC (E rfl rfl) (evsC (E rfl rfl) evs0)) (S1 := [Ent.box b 155 (rdCells bs r)]) (S2 := _) rfl (mem74 b bs r hb hr x) ?_
  rintro t37 S37 ⟨rfl, E37, rfl⟩
  refine AWL.tuck ?_
  refine ym ?_
  refine Y1 (Yv.extract rfl eV rfl) ?_
  refine Y1 (Yv.extract rfl eV rfl) ?_
  refine Y1 (Yv.extract rfl eV rfl) ?_
  refine Y1 (Yv.assign rfl eV) ?_
  refine Y1 (Yv.assign rfl eV) ?_
  refine ya ?_
  refine rs (ym ?_)
  refine ym ?_
  refine ym ?_
  refine Y1 (Yv.buildS rfl sh_57 (evpC eV (evpC eV (evpC eV (evpC eV (evpC eV evp0))))) (fun _ => rfl)) ?_
  refine AWL.storeBox (i := 2) rfl rfl rfl ag_57 rfl (E rfl rfl) (E rfl rfl) rfl rfl nB (nl ?_)
  refine AW.ret (retI (.cellA (i := 2) rfl ag_57 rfl rfl rfl .nil) ?_)
  rw [movedR, if_pos (show peekF bs r = true from h0t)]
  exact ⟨rfl, _, rfl⟩
 try replace h0f := odf h0f
 refine AW.skip ?_
 refine rs (ym ?_)
 refine Y1 (Yv.loadBoxA rfl ag_183 (i := 1) rfl eV rfl rfl) ?_
 refine C1 rfl ce_121 (E rfl rfl) (evsC (E rfl rfl) (evsC (E rfl rfl) evs0)) (S1 := [Ent.box b 155 (rdCells bs r)]) (S2 := _) rfl (two78 b bs r hb hr x) ?_
 rintro t48 S48 ⟨rfl, E48, rfl⟩
 refine AWL.tuck ?_
 refine ym ?_
 refine Y1 (Yv.extract rfl eV rfl) ?_
 refine Y1 (Yv.extract rfl eV rfl) ?_
 refine Y1 (Yv.assign rfl eV) ?_
 refine ya ?_
 refine rs (ym ?_)
 refine ym ?_
 refine Y1 (Yv.buildS rfl sh_57 (evpC eV (evpC eV (evpC eV evp0))) (fun _ => rfl)) ?_
 refine AWL.storeBox (i := 2) rfl rfl rfl ag_57 rfl (E rfl rfl) (E rfl rfl) rfl rfl nB (nl ?_)
 refine AW.ret (retI (.cellA (i := 2) rfl ag_57 rfl rfl rfl .nil) ?_)
 rw [movedR, if_neg (show ¬ peekF bs r = true from ne_true_of_eq_false h0f)]
 exact ⟨rfl, _, rfl⟩

set_option maxHeartbeats 2000000 in
theorem numbered77 (b : Nat) (bs : List UInt8) (r : Rd) (hb : bs.length ≤ 1099511627776) (hr : RdOk bs r) (x : Rx) (op : Int) :
    ACalls Tryz.prog 119 [pv b, rxT x, .v (.int .i64 op)] [Ent.box b 155 (rdCells bs r)] (fun t_ S => t_ = insT (numberedR bs x op r).1 ∧ ∃ E, S = Ent.box b 155 (rdCells bs (numberedR bs x op r).2) :: E) := by
 have hok1 : RdOk bs (numD1 bs x op r) := must_ok (one_ok hr x) _
 refine ACalls.intro Tryz.func119 rfl Tryz.ntmps119 nB rfl fun X w0 => ?_
 refine rs ?_
 refine AWL.boxOp rfl rfl (B rfl) rfl (E rfl rfl) rfl (fun b4 => ?_)
 refine AWL.allocOp rfl rfl (B rfl) rfl zc_57 (fun b6 => ?_)
 refine nl ?_
 refine rs (ym ?_)
 refine Y1 (Yv.loadBoxA rfl ag_183 (i := 1) rfl eV rfl rfl) ?_
 refine C1 rfl ce_118 (E rfl rfl) (evsC (E rfl rfl) (evsC (E rfl rfl) evs0)) (S1 := [Ent.box b 155 (rdCells bs r)]) (S2 := _) rfl (one76 b bs r hb hr x) ?_
 rintro t18 S18 ⟨rfl, E18, rfl⟩
 refine AWL.tuck ?_
 refine ym ?_
 refine Y1 (Yv.extract rfl eV rfl) ?_
 refine Y1 (Yv.extract rfl eV rfl) ?_
 refine Y1 (Yv.assign rfl eV) ?_
 refine ya ?_
 refine ra ?_
 refine AW.seq ?_
 refine rs ?_
 refine AWL.buildSlice1 rfl rfl (B rfl) rfl el_112 rfl (evsC (E rfl rfl) (evsC (E rfl rfl) (evsC (E rfl rfl) (evsC (E rfl rfl) (evsC (E rfl rfl) (evsC (E rfl rfl) (evsC (E rfl rfl) (evsC (E rfl rfl) (evsC (E rfl rfl) (evsC (E rfl rfl) (evsC (E rfl rfl) (evsC (E rfl rfl) (evsC (E rfl rfl) (evsC (E rfl rfl) (evsC (E rfl rfl) (evsC (E rfl rfl) evs0)))))))))))))))) nB rfl rfl ?_
 refine Y1 (Yv.lenSl rfl so_112 (B rfl) eV (show _ = 16 * 1 from rfl)) ?_
 refine ym (nl ?_)
 refine AW.block ?_
 refine AW.loop (fun (j : Nat) => [(0, true, pv b), (2, true, .v (.int .i64 op)), (4, true, pv b4), (6, true, pv b6), (7, true, .v (.int .i64 (oneV bs x r).1)), (8, true, .v (.int .i64 (oneV bs x r).2)), (9, true, .v (.int .i64 (kindN op (oneV bs x r).1 j))), (21, true, .sl 1 (ints kindsN)), (22, true, .v (.int .i64 16)), (23, true, .v (.int .i64 (j : Int)))]) (fun (j : Nat) => ([Ent.box b 155 (rdCells bs (oneD bs x r)), .box b4 183 (rxCells x), .box b6 57 (insCells nilI)] ++ E18)) (fun (j : Nat) => j ≤ 16) (fun (j : Nat) => 16 - j) 0 ?_ ?_ ?_ ?_
 ·exact Nat.zero_le _
 ·exact (su (su (su (su (su (su (su (su (su (su sn))))))))))
 ·rfl
 ·
  intro j hinv
  refine rs (Y1 (Yv.lss rfl eV eV) (nl ?_))
  refine AW.seq ?_
  refine AW.cond rfl (fun h0t => ?_) (fun h0f => ?_)
  ·
   try replace h0t := odt h0t
   refine AW.skip ?_
   refine AW.seq ?_
   refine AW.block ?_
   refine rs (Y1 (Yv.indexSl (j := j) rfl ss_112 (B rfl) eV eV (fun hg => ⟨rfl, by show j * 1 < 16; omega⟩)) ?_)
   refine Y1 (Yv.loadRp rfl ag_3 eV (fun hg => ints_get (by show j < 16; omega))) ?_
   refine ya ?_
   refine rs (ym ?_)
   refine AWL.callT rfl rfl (B rfl) rfl ce_120 (E rfl rfl) (evsC (E rfl rfl) evs0) (opcode33 (kindsN.getD j 0)) ?_
   rintro t29 S29 rfl
   refine ym ?_
   refine Y1 (Yv.extract rfl eV rfl) ?_
   refine Y1 (Yv.extract rfl eV rfl) ?_
   refine Y1 (Yv.assign rfl eV) ?_
   refine ya ?_
   refine rs (ym ?_)
   refine ym ?_
   refine Y1 (Yv.eql rfl eV eV) ?_
   refine ym ?_
   refine gT (Yv.move rfl eV) ?_
   refine gT (Yv.move rfl eV) ?_
   refine gT (Yv.eql rfl (Eg rfl rfl id) (Eg rfl rfl id)) ?_
   refine Y1 (Yv.pickAnd rfl eV (Eg rfl rfl id)) (nl ?_)
   refine AW.cond rfl (fun h1t => ?_) (fun h1f => ?_)
   ·
    try replace h1t := odt h1t
    refine AW.region ?_
    refine ym ?_
    refine ya ?_
    refine AW.region ?_
    refine Y1 (Yv.addN_i64 rfl eV eV (fun hg => by omega)) ?_
    refine ym (nl ?_)
    have hkn := kindN_next op (oneV bs x r).1 (show j < 16 by omega)
    refine ⟨j + 1, by omega, by omega, su (su (su (su (su (su (Sub.cons rfl (by rw [hkn, stepN, if_pos h1t]) (su (su (Sub.cons rfl (by simp) Sub.nil))))))))), rfl⟩
   try replace h1f := odf h1f
   refine AW.skip ?_
   refine AW.region ?_
   refine Y1 (Yv.addN_i64 rfl eV eV (fun hg => by omega)) ?_
   refine ym (nl ?_)
   have hkn := kindN_next op (oneV bs x r).1 (show j < 16 by omega)
   refine ⟨j + 1, by omega, by omega, su (su (su (su (su (su (Sub.cons rfl (by rw [hkn, stepN, if_neg (ne_true_of_eq_false h1f)]) (su (su (Sub.cons rfl (by simp) Sub.nil))))))))), rfl⟩
  try replace h0f := odf h0f
  refine AW.exit ?_
  obtain rfl : j = 16 := by omega
  refine rs (ym ?_)
  refine ym ?_
  refine Y1 (Yv.gtr rfl eV eV) ?_
  refine C1 rfl ce_99 (E rfl rfl) (evsC (E rfl rfl) (evsC (E rfl rfl) evs0)) (S1 := [Ent.box b 155 (rdCells bs (oneD bs x r))]) (S2 := _) rfl (must64 b bs (oneD bs x r) (decide (0 < (kindN op (oneV bs x r).1 16)))) ?_
  rintro t45 S45 rfl
  refine nl ?_
  refine rs (ym ?_)
  refine ym ?_
  refine Y1 (Yv.buildS rfl sh_57 (evpC eV (evpC eV evp0)) (fun _ => rfl)) ?_
  refine AWL.allocOp rfl rfl (B rfl) rfl zc_57 (fun b14 => ?_)
  refine AWL.perm (S' := [Ent.box b 155 (rdCells bs (numD1 bs x op r)), .box b4 183 (rxCells x), .box b6 57 (insCells nilI), .box b14 57 (insCells nilI)] ++ E18) (List.Perm.append_left [_, _, _] (List.perm_append_comm (l₁ := [_]) (l₂ := E18))) ?_
  refine AWL.storeBox (i := 3) rfl rfl rfl ag_57 rfl (E rfl rfl) (E rfl rfl) rfl rfl nB (nl ?_)
  refine AW.seq ?_
  refine rs (ym (nl ?_))
  refine AW.block ?_
  refine rs (Y1 (Yv.eql rfl eV eV) ?_)
  refine ya ?_
  refine AW.cond rfl (fun h2t => ?_) (fun h2f => ?_)
  ·
   try replace h2t := odt h2t
   refine AW.region ?_
   refine ym ?_
   refine C1 rfl ce_103 (E rfl rfl) (evsC (E rfl rfl) (evsC (E rfl rfl) evs0)) (S1 := [Ent.box b 155 (rdCells bs (numD1 bs x op r))]) (S2 := _) rfl (imm68 b bs (numD1 bs x op r) hb hok1 4 (.inr (.inl rfl))) ?_
   rintro t53 S53 ⟨rfl, rfl⟩
   refine yf fo_57_5 ?_
   refine AWL.storeBox (i := 3) rfl rfl rfl ag_2 rfl (E rfl rfl) (E rfl rfl) rfl rfl nB (nl ?_)
   refine rs (Y1 (Yv.loadBoxA rfl ag_57 (i := 3) rfl eV rfl rfl) ?_)
   refine AWL.storeBox (i := 2) rfl rfl rfl ag_57 rfl (E rfl rfl) (E rfl rfl) rfl rfl nB (nl ?_)
   refine AW.ret (retI (.cellA (i := 2) rfl ag_57 rfl rfl rfl .nil) ?_)
   rw [numberedR, if_pos h2t]
   exact ⟨rfl, _, rfl⟩
  try replace h2f := odf h2f
  refine rs (Y1 (Yv.eql rfl eV eV) ?_)
  refine ya ?_
  refine AW.cond rfl (fun h3t => ?_) (fun h3f => ?_)
  ·
   try replace h3t := odt h3t
   refine rs (ym ?_)
   refine C1 rfl ce_103 (E rfl rfl) (evsC (E rfl rfl) (evsC (E rfl rfl) evs0)) (S1 := [Ent.box b 155 (rdCells bs (numD1 bs x op r))]) (S2 := _) rfl (imm68 b bs (numD1 bs x op r) hb hok1 1 (.inl rfl)) ?_
   rintro t58 S58 ⟨rfl, rfl⟩
   refine yf fo_57_5 ?_
   refine AWL.storeBox (i := 3) rfl rfl rfl ag_2 rfl (E rfl rfl) (E rfl rfl) rfl rfl nB (nl ?_)
   refine AW.region ?_
   refine ym ?_
   refine yf fo_57_5 ?_
   refine yl ag_2 3 ?_
   refine Y1 (Yv.geq rfl eV eV) ?_
   refine ym ?_
   refine gT (Yv.fieldBox rfl fo_57_5 eV) ?_
   refine gT (Yv.loadBox rfl ag_2 (i := 3) rfl (Eg rfl rfl id) rfl) ?_
   refine gT (Yv.leq rfl (Eg rfl rfl id) eV) ?_
   refine Y1 (Yv.pickAnd rfl eV (Eg rfl rfl id)) ?_
   refine C1 rfl ce_99 (E rfl rfl) (evsC (E rfl rfl) (evsC (E rfl rfl) evs0)) (S1 := [Ent.box b 155 (rdCells bs (immD bs (numD1 bs x op r) 1))]) (S2 := _) rfl (must64 b bs (immD bs (numD1 bs x op r) 1) (decide (0 ≤ immV bs (numD1 bs x op r) 1) && decide (immV bs (numD1 bs x op r) 1 ≤ 63))) ?_
   rintro t69 S69 rfl
   refine nl ?_
   refine rs (Y1 (Yv.loadBoxA rfl ag_57 (i := 3) rfl eV rfl rfl) ?_)
   refine AWL.storeBox (i := 2) rfl rfl rfl ag_57 rfl (E rfl rfl) (E rfl rfl) rfl rfl nB (nl ?_)
   refine AW.ret (retI (.cellA (i := 2) rfl ag_57 rfl rfl rfl .nil) ?_)
   rw [numberedR, if_neg h2f, if_pos h3t]
   exact ⟨rfl, _, rfl⟩
  try replace h3f := odf h3f
  refine AW.skip ?_
  refine rs (Y1 (Yv.loadBoxA rfl ag_57 (i := 3) rfl eV rfl rfl) ?_)
  refine AWL.storeBox (i := 2) rfl rfl rfl ag_57 rfl (E rfl rfl) (E rfl rfl) rfl rfl nB (nl ?_)
  refine AW.ret (retI (.cellA (i := 2) rfl ag_57 rfl rfl rfl .nil) ?_)
  rw [numberedR, if_neg h2f, if_neg h3f]
  exact ⟨rfl, _, rfl⟩

set_option maxHeartbeats 2000000 in
theorem narrow73 (b : Nat) (bs : List UInt8) (r : Rd) (hb : bs.length ≤ 1099511627776) (hr : RdOk bs r) (x : Rx) (op : Int) (ho0 : 0 ≤ op) (ho1 : op ≤ 255) :
    ACalls Tryz.prog 114 [pv b, rxT x, .v (.int .i64 op)] [Ent.box b 155 (rdCells bs r)] (fun t_ S => t_ = insT (narrowR bs x op r).1 ∧ ∃ E, S = Ent.box b 155 (rdCells bs (narrowR bs x op r).2) :: E) := by
 refine ACalls.intro Tryz.func114 rfl Tryz.ntmps114 nB rfl fun X w0 => ?_
 refine rs ?_
 refine AWL.boxOp rfl rfl (B rfl) rfl (E rfl rfl) rfl (fun b4 => ?_)
 refine AWL.allocOp rfl rfl (B rfl) rfl zc_57 (fun b6 => ?_)
 refine nl ?_
 refine AW.seq ?_
 refine AW.block ?_
 refine rs (ym ?_)
 refine Y1 (Yv.eql rfl eV eV) ?_
 refine ya ?_
 refine AW.cond rfl (fun h0t => ?_) (fun h0f => ?_)
 ·
  try replace h0t := odt h0t
  refine rs (ym ?_)
  refine Y1 (Yv.loadBoxA rfl ag_183 (i := 1) rfl eV rfl rfl) ?_
  refine C1 rfl ce_116 (E rfl rfl) (evsC (E rfl rfl) (evsC (E rfl rfl) evs0)) (S1 := [Ent.box b 155 (rdCells bs r)]) (S2 := _) rfl (mem74 b bs r hb hr x) ?_
  rintro t24 S24 ⟨rfl, E24, rfl⟩
  refine AWL.tuck ?_
  refine ym ?_
  refine Y1 (Yv.extract rfl eV rfl) ?_
  refine Y1 (Yv.extract rfl eV rfl) ?_
  refine Y1 (Yv.extract rfl eV rfl) ?_
  refine Y1 (Yv.assign rfl eV) ?_
  refine Y1 (Yv.assign rfl eV) ?_
  refine ya ?_
  refine rs (ym ?_)
  refine ym ?_
  refine ym ?_
  refine Y1 (Yv.buildS rfl sh_57 (evpC eV (evpC eV (evpC eV (evpC eV (evpC eV evp0))))) (fun _ => rfl)) ?_
  refine AWL.storeBox (i := 2) rfl rfl rfl ag_57 rfl (E rfl rfl) (E rfl rfl) rfl rfl nB (nl ?_)
  refine AW.ret (retI (.cellA (i := 2) rfl ag_57 rfl rfl rfl .nil) ?_)
  rw [narrowR, if_pos h0t]
  exact ⟨rfl, _, rfl⟩
 try replace h0f := odf h0f
 refine rs (ym ?_)
 refine Y1 (Yv.eql rfl eV eV) ?_
 refine ya ?_
 refine AW.cond rfl (fun h1t => ?_) (fun h1f => ?_)
 ·
  try replace h1t := odt h1t
  refine rs (ym ?_)
  refine Y1 (Yv.loadBoxA rfl ag_183 (i := 1) rfl eV rfl rfl) ?_
  refine C1 rfl ce_116 (E rfl rfl) (evsC (E rfl rfl) (evsC (E rfl rfl) evs0)) (S1 := [Ent.box b 155 (rdCells bs r)]) (S2 := _) rfl (mem74 b bs r hb hr x) ?_
  rintro t38 S38 ⟨rfl, E38, rfl⟩
  refine AWL.tuck ?_
  refine ym ?_
  refine Y1 (Yv.extract rfl eV rfl) ?_
  refine Y1 (Yv.extract rfl eV rfl) ?_
  refine Y1 (Yv.extract rfl eV rfl) ?_
  refine Y1 (Yv.assign rfl eV) ?_
  refine Y1 (Yv.assign rfl eV) ?_
  refine ya ?_
  refine rs (ym ?_)
  refine ym ?_
  refine ym ?_
  refine Y1 (Yv.buildS rfl sh_57 (evpC eV (evpC eV (evpC eV (evpC eV (evpC eV evp0))))) (fun _ => rfl)) ?_
  refine AWL.storeBox (i := 2) rfl rfl rfl ag_57 rfl (E rfl rfl) (E rfl rfl) rfl rfl nB (nl ?_)
  refine AW.ret (retI (.cellA (i := 2) rfl ag_57 rfl rfl rfl .nil) ?_)
  rw [narrowR, if_neg h0f, if_pos h1t]
  exact ⟨rfl, _, rfl⟩
 try replace h1f := odf h1f
 refine rs (ym ?_)
 refine Y1 (Yv.eql rfl eV eV) ?_
 refine ya ?_
 refine AW.cond rfl (fun h2t => ?_) (fun h2f => ?_)
 ·
  try replace h2t := odt h2t
  refine rs (ym ?_)
  refine Y1 (Yv.loadBoxA rfl ag_183 (i := 1) rfl eV rfl rfl) ?_
  refine C1 rfl ce_116 (E rfl rfl) (evsC (E rfl rfl) (evsC (E rfl rfl) evs0)) (S1 := [Ent.box b 155 (rdCells bs r)]) (S2 := _) rfl (mem74 b bs r hb hr x) ?_
  rintro t52 S52 ⟨rfl, E52, rfl⟩
  refine AWL.tuck ?_
  refine ym ?_
  refine Y1 (Yv.extract rfl eV rfl) ?_
  refine Y1 (Yv.extract rfl eV rfl) ?_
  refine Y1 (Yv.extract rfl eV rfl) ?_
  refine Y1 (Yv.assign rfl eV) ?_
  refine Y1 (Yv.assign rfl eV) ?_
  refine ya ?_
  refine rs (ym ?_)
  refine ym ?_
  refine ym ?_
  refine Y1 (Yv.buildS rfl sh_57 (evpC eV (evpC eV (evpC eV (evpC eV (evpC eV evp0))))) (fun _ => rfl)) ?_
  refine AWL.storeBox (i := 2) rfl rfl rfl ag_57 rfl (E rfl rfl) (E rfl rfl) rfl rfl nB (nl ?_)
  refine AW.ret (retI (.cellA (i := 2) rfl ag_57 rfl rfl rfl .nil) ?_)
  rw [narrowR, if_neg h0f, if_neg h1f, if_pos h2t]
  exact ⟨rfl, _, rfl⟩
 try replace h2f := odf h2f
 refine rs (ym ?_)
 refine Y1 (Yv.eql rfl eV eV) ?_
 refine ya ?_
 refine AW.cond rfl (fun h3t => ?_) (fun h3f => ?_)
 ·
  try replace h3t := odt h3t
  refine rs (ym ?_)
  refine Y1 (Yv.loadBoxA rfl ag_183 (i := 1) rfl eV rfl rfl) ?_
  refine C1 rfl ce_118 (E rfl rfl) (evsC (E rfl rfl) (evsC (E rfl rfl) evs0)) (S1 := [Ent.box b 155 (rdCells bs r)]) (S2 := _) rfl (one76 b bs r hb hr x) ?_
  rintro t66 S66 ⟨rfl, E66, rfl⟩
  refine AWL.tuck ?_
  refine ym ?_
  refine Y1 (Yv.extract rfl eV rfl) ?_
  refine Y1 (Yv.extract rfl eV rfl) ?_
  refine Y1 (Yv.assign rfl eV) ?_
  refine ya ?_
  refine rs (ym ?_)
  refine ym ?_
  refine Y1 (Yv.eql rfl eV eV) ?_
  refine ym ?_
  refine gF (Yv.move rfl eV) ?_
  refine gF (Yv.eql rfl (Eg rfl rfl id) eV) ?_
  refine Y1 (Yv.pickOr (t := .const (.bool true)) rfl eV (Eg rfl rfl id)) ?_
  refine C1 rfl ce_99 (E rfl rfl) (evsC (E rfl rfl) (evsC (E rfl rfl) evs0)) (S1 := [Ent.box b 155 (rdCells bs (oneD bs x r))]) (S2 := _) rfl (must64 b bs (oneD bs x r) (decide ((oneV bs x r).1 = 2) || decide ((oneV bs x r).1 = 4))) ?_
  rintro t76 S76 rfl
  refine nl ?_
  refine AW.seq ?_
  refine rs (ym ?_)
  refine Y1 (Yv.eql rfl eV eV) (nl ?_)
  refine AW.cond rfl (fun h4t => ?_) (fun h4f => ?_)
  ·
   try replace h4t := odt h4t
   refine rs (ym ?_)
   refine Y1 (Yv.buildS rfl sh_57 (evpC eV (evpC eV evp0)) (fun _ => rfl)) ?_
   refine AWL.storeBox (i := 2) rfl rfl rfl ag_57 rfl (E rfl rfl) (E rfl rfl) rfl rfl nB (nl ?_)
   refine AW.ret (retI (.cellA (i := 2) rfl ag_57 rfl rfl rfl .nil) ?_)
   rw [narrowR, if_neg h0f, if_neg h1f, if_neg h2f, if_pos h3t, if_pos h4t]
   exact ⟨rfl, _, rfl⟩
  try replace h4f := odf h4f
  refine AW.skip ?_
  refine rs (ym ?_)
  refine Y1 (Yv.buildS rfl sh_57 (evpC eV (evpC eV evp0)) (fun _ => rfl)) ?_
  refine AWL.storeBox (i := 2) rfl rfl rfl ag_57 rfl (E rfl rfl) (E rfl rfl) rfl rfl nB (nl ?_)
  refine AW.ret (retI (.cellA (i := 2) rfl ag_57 rfl rfl rfl .nil) ?_)
  rw [narrowR, if_neg h0f, if_neg h1f, if_neg h2f, if_pos h3t, if_neg h4f]
  exact ⟨rfl, _, rfl⟩
 try replace h3f := odf h3f
 refine rs (ym ?_)
 refine Y1 (Yv.bits rfl rfl eV eV) ?_
 refine Y1 (Yv.eql rfl eV eV) ?_
 refine ya ?_
 refine AW.cond rfl (fun h5t => ?_) (fun h5f => ?_)
 ·
  try replace h5t := odt h5t
  refine rs (ym ?_)
  refine yf fo_183_1 ?_
  refine yl ag_3 1 ?_
  refine Y1 (Yv.eql rfl eV eV) ?_
  refine C1 rfl ce_99 (E rfl rfl) (evsC (E rfl rfl) (evsC (E rfl rfl) evs0)) (S1 := [Ent.box b 155 (rdCells bs r)]) (S2 := _) rfl (must64 b bs r _) ?_
  rintro t91 S91 rfl
  refine nl ?_
  refine rs (yf fo_183_2 ?_)
  refine yl ag_3 1 ?_
  refine ym ?_
  refine Y1 (Yv.andN_i64 3 8 (by decide) (by decide) (by decide) rfl (E rfl rfl) (E rfl rfl) (fun hg => ⟨by omega, by omega⟩)) ?_
  refine Y1 (Yv.bits rfl rfl eV eV) ?_
  refine Y1 (Yv.buildS rfl sh_57 (evpC eV (evpC eV evp0)) (fun _ => rfl)) ?_
  refine AWL.storeBox (i := 2) rfl rfl rfl ag_57 rfl (E rfl rfl) (E rfl rfl) rfl rfl nB (nl ?_)
  refine AW.ret (retI (.cellA (i := 2) rfl ag_57 rfl rfl rfl .nil) ?_)
  rw [narrowR, if_neg h0f, if_neg h1f, if_neg h2f, if_neg h3f, if_pos h5t]
  exact ⟨rfl, _, rfl⟩
 try replace h5f := odf h5f
 refine rs (ym ?_)
 refine Y1 (Yv.bits rfl rfl eV eV) ?_
 refine Y1 (Yv.eql rfl eV eV) ?_
 refine ya ?_
 refine AW.cond rfl (fun h6t => ?_) (fun h6f => ?_)
 ·
  try replace h6t := odt h6t
  refine rs (ym ?_)
  refine yf fo_183_1 ?_
  refine yl ag_3 1 ?_
  refine Y1 (Yv.eql rfl eV eV) ?_
  refine C1 rfl ce_99 (E rfl rfl) (evsC (E rfl rfl) (evsC (E rfl rfl) evs0)) (S1 := [Ent.box b 155 (rdCells bs r)]) (S2 := _) rfl (must64 b bs r _) ?_
  rintro t106 S106 rfl
  refine nl ?_
  refine rs (yf fo_183_2 ?_)
  refine yl ag_3 1 ?_
  refine ym ?_
  refine Y1 (Yv.andN_i64 3 8 (by decide) (by decide) (by decide) rfl (E rfl rfl) (E rfl rfl) (fun hg => ⟨by omega, by omega⟩)) ?_
  refine Y1 (Yv.bits rfl rfl eV eV) ?_
  refine Y1 (Yv.buildS rfl sh_57 (evpC eV (evpC eV evp0)) (fun _ => rfl)) ?_
  refine AWL.storeBox (i := 2) rfl rfl rfl ag_57 rfl (E rfl rfl) (E rfl rfl) rfl rfl nB (nl ?_)
  refine AW.ret (retI (.cellA (i := 2) rfl ag_57 rfl rfl rfl .nil) ?_)
  rw [narrowR, if_neg h0f, if_neg h1f, if_neg h2f, if_neg h3f, if_neg h5f, if_pos h6t]
  exact ⟨rfl, _, rfl⟩
 try replace h6f := odf h6f
 refine AW.skip ?_
 refine rs (ym ?_)
 refine C1 rfl ce_99 (E rfl rfl) (evsC (E rfl rfl) (evsC (E rfl rfl) evs0)) (S1 := [Ent.box b 155 (rdCells bs r)]) (S2 := _) rfl (must64 b bs r _) ?_
 rintro t114 S114 rfl
 refine nl ?_
 refine rs (Y1 (Yv.buildS rfl sh_57 evp0 (fun _ => rfl)) ?_)
 refine AWL.storeBox (i := 2) rfl rfl rfl ag_57 rfl (E rfl rfl) (E rfl rfl) rfl rfl nB (nl ?_)
 refine AW.ret (retI (.cellA (i := 2) rfl ag_57 rfl rfl rfl .nil) ?_)
 rw [narrowR, if_neg h0f, if_neg h1f, if_neg h2f, if_neg h3f, if_neg h5f, if_neg h6f]
 exact ⟨rfl, _, rfl⟩

set_option maxHeartbeats 2000000 in
theorem far72 (b : Nat) (bs : List UInt8) (r : Rd) (hb : bs.length ≤ 1099511627776) (hr : RdOk bs r) (x : Rx) :
    ACalls Tryz.prog 113 [pv b, rxT x] [Ent.box b 155 (rdCells bs r)] (fun t_ S => t_ = insT (farR bs x r).1 ∧ ∃ E, S = Ent.box b 155 (rdCells bs (farR bs x r).2) :: E) := by
 have hok1 : RdOk bs (farD1 x r) := must_ok hr _
 have hok2 := next_ok hok1
 obtain ⟨hx0, hx1⟩ := next_range bs (farD1 x r)
 refine ACalls.intro Tryz.func113 rfl Tryz.ntmps113 nB rfl fun X w0 => ?_
 refine rs ?_
 refine AWL.boxOp rfl rfl (B rfl) rfl (E rfl rfl) rfl (fun b3 => ?_)
 refine AWL.allocOp rfl rfl (B rfl) rfl zc_57 (fun b4 => ?_)
 refine nl ?_
 refine rs (ym ?_)
 refine yf fo_183_0 ?_
 refine yl ag_3 1 ?_
 refine Y1 (Yv.eql rfl eV eV) ?_
 refine ym ?_
 refine gF (Yv.fieldBox rfl fo_183_1 eV) ?_
 refine gF (Yv.loadBox rfl ag_3 (i := 1) rfl (Eg rfl rfl id) rfl) ?_
 refine gF (Yv.eql rfl (Eg rfl rfl id) eV) ?_
 refine Y1 (Yv.pickOr (t := .const (.bool true)) rfl eV (Eg rfl rfl id)) ?_
 refine C1 rfl ce_99 (E rfl rfl) (evsC (E rfl rfl) (evsC (E rfl rfl) evs0)) (S1 := [Ent.box b 155 (rdCells bs r)]) (S2 := _) rfl (must64 b bs r (decide (x.wide = 1) || decide (x.reg = 0))) ?_
 rintro t26 S26 rfl
 refine nl ?_
 refine rs (ym ?_)
 refine C1 rfl ce_98 (E rfl rfl) (evsC (E rfl rfl) evs0) (S1 := [Ent.box b 155 (rdCells bs (farD1 x r))]) (S2 := _) rfl (next63 b bs (farD1 x r) hb hok1) ?_
 rintro t28 S28 ⟨rfl, rfl⟩
 refine ya ?_
 refine AW.seq ?_
 refine rs (ym ?_)
 refine Y1 (Yv.nilChk rfl eV) ?_
 refine yf fo_155_2 ?_
 refine yl ag_4 0 ?_
 refine ym ?_
 refine gF (Yv.move rfl eV) ?_
 refine gF (Yv.nilChk rfl (Eg rfl rfl id)) ?_
 refine gF (Yv.fieldBox rfl fo_155_3 (Eg rfl rfl id)) ?_
 refine gF (Yv.loadBox rfl ag_4 (i := 0) rfl (Eg rfl rfl id) rfl) ?_
 refine Y1 (Yv.pickOr (t := .const (.bool true)) rfl eV (Eg rfl rfl id)) (nl ?_)
 refine AW.cond rfl (fun h0t => ?_) (fun h0f => ?_)
 ·
  try replace h0t := odt h0t
  refine rs (Y1 (Yv.buildS rfl sh_57 evp0 (fun _ => rfl)) ?_)
  refine AWL.storeBox (i := 2) rfl rfl rfl ag_57 rfl (E rfl rfl) (E rfl rfl) rfl rfl nB (nl ?_)
  refine AW.ret (retI (.cellA (i := 2) rfl ag_57 rfl rfl rfl .nil) ?_)
  rw [farR, if_pos h0t]
  exact ⟨rfl, _, rfl⟩
 try replace h0f := odf h0f
 refine AW.skip ?_
 refine AW.seq ?_
 refine AW.block ?_
 refine rs (yf fo_183_0 ?_)
 refine yl ag_3 1 ?_
 refine Y1 (Yv.eql rfl eV eV) ?_
 refine ym ?_
 refine gT (Yv.move rfl eV) ?_
 refine gT (Yv.bits rfl rfl (Eg rfl rfl id) eV) ?_
 refine gT (Yv.eql rfl (Eg rfl rfl id) eV) ?_
 refine Y1 (Yv.pickAnd rfl eV (Eg rfl rfl id)) ?_
 refine ya ?_
 refine AW.cond rfl (fun h1t => ?_) (fun h1f => ?_)
 ·
  try replace h1t := odt h1t
  refine rs (ym ?_)
  refine Y1 (Yv.loadBoxA rfl ag_183 (i := 1) rfl eV rfl rfl) ?_
  refine C1 rfl ce_118 (E rfl rfl) (evsC (E rfl rfl) (evsC (E rfl rfl) evs0)) (S1 := [Ent.box b 155 (rdCells bs (nextF bs (farD1 x r)).2)]) (S2 := _) rfl (one76 b bs (nextF bs (farD1 x r)).2 hb hok2 x) ?_
  rintro t52 S52 ⟨rfl, E52, rfl⟩
  refine AWL.tuck ?_
  refine ym ?_
  refine Y1 (Yv.extract rfl eV rfl) ?_
  refine Y1 (Yv.extract rfl eV rfl) ?_
  refine Y1 (Yv.assign rfl eV) ?_
  refine ya ?_
  refine rs (ym ?_)
  refine ym ?_
  refine Y1 (Yv.eql rfl eV eV) ?_
  refine C1 rfl ce_99 (E rfl rfl) (evsC (E rfl rfl) (evsC (E rfl rfl) evs0)) (S1 := [Ent.box b 155 (rdCells bs (oneD bs x (nextF bs (farD1 x r)).2))]) (S2 := _) rfl (must64 b bs (oneD bs x (nextF bs (farD1 x r)).2) (decide ((oneV bs x (nextF bs (farD1 x r)).2).1 = 0))) ?_
  rintro t58 S58 rfl
  refine nl ?_
  refine rs (ym ?_)
  refine ym ?_
  refine Y1 (Yv.andN_i64 4 16 (by decide) (by decide) (by decide) rfl (E rfl rfl) (E rfl rfl) (fun hg => ⟨by omega, by omega⟩)) ?_
  refine Y1 (Yv.buildS rfl sh_57 (evpC eV (evpC eV (evpC eV evp0))) (fun _ => rfl)) ?_
  refine AWL.storeBox (i := 2) rfl rfl rfl ag_57 rfl (E rfl rfl) (E rfl rfl) rfl rfl nB (nl ?_)
  refine AW.ret (retI (.cellA (i := 2) rfl ag_57 rfl rfl rfl .nil) ?_)
  rw [farR, if_neg (ne_true_of_eq_false h0f), farIn, if_pos h1t]
  exact ⟨rfl, _, rfl⟩
 try replace h1f := odf h1f
 refine rs (yf fo_183_0 ?_)
 refine yl ag_3 1 ?_
 refine Y1 (Yv.eql rfl eV eV) ?_
 refine ym ?_
 refine gT (Yv.move rfl eV) ?_
 refine gT (Yv.bits rfl rfl (Eg rfl rfl id) eV) ?_
 refine gT (Yv.eql rfl (Eg rfl rfl id) eV) ?_
 refine Y1 (Yv.pickAnd rfl eV (Eg rfl rfl id)) ?_
 refine ya ?_
 refine AW.cond rfl (fun h2t => ?_) (fun h2f => ?_)
 ·
  try replace h2t := odt h2t
  refine rs (ym ?_)
  refine Y1 (Yv.loadBoxA rfl ag_183 (i := 1) rfl eV rfl rfl) ?_
  refine C1 rfl ce_121 (E rfl rfl) (evsC (E rfl rfl) (evsC (E rfl rfl) evs0)) (S1 := [Ent.box b 155 (rdCells bs (nextF bs (farD1 x r)).2)]) (S2 := _) rfl (two78 b bs (nextF bs (farD1 x r)).2 hb hok2 x) ?_
  rintro t75 S75 ⟨rfl, E75, rfl⟩
  refine AWL.tuck ?_
  refine ym ?_
  refine Y1 (Yv.extract rfl eV rfl) ?_
  refine Y1 (Yv.extract rfl eV rfl) ?_
  refine Y1 (Yv.assign rfl eV) ?_
  refine ya ?_
  refine rs (ym ?_)
  refine ym ?_
  refine ym ?_
  refine Y1 (Yv.andN_i64 4 16 (by decide) (by decide) (by decide) rfl (E rfl rfl) (E rfl rfl) (fun hg => ⟨by omega, by omega⟩)) ?_
  refine Y1 (Yv.buildS rfl sh_57 (evpC eV (evpC eV (evpC eV (evpC eV evp0)))) (fun _ => rfl)) ?_
  refine AWL.storeBox (i := 2) rfl rfl rfl ag_57 rfl (E rfl rfl) (E rfl rfl) rfl rfl nB (nl ?_)
  refine AW.ret (retI (.cellA (i := 2) rfl ag_57 rfl rfl rfl .nil) ?_)
  rw [farR, if_neg (ne_true_of_eq_false h0f), farIn, if_neg (ne_true_of_eq_false h1f), if_pos h2t]
  exact ⟨rfl, _, rfl⟩
 try replace h2f := odf h2f
 refine rs (yf fo_183_0 ?_)
 refine yl ag_3 1 ?_
 refine Y1 (Yv.eql rfl eV eV) ?_
 refine ym ?_
 refine gT (Yv.move rfl eV) ?_
 refine gT (Yv.eql rfl (Eg rfl rfl id) eV) ?_
 refine Y1 (Yv.pickAnd rfl eV (Eg rfl rfl id)) ?_
 refine ya ?_
 refine AW.cond rfl (fun h3t => ?_) (fun h3f => ?_)
 ·
  try replace h3t := odt h3t
  refine rs (ym ?_)
  refine Y1 (Yv.loadBoxA rfl ag_183 (i := 1) rfl eV rfl rfl) ?_
  refine C1 rfl ce_121 (E rfl rfl) (evsC (E rfl rfl) (evsC (E rfl rfl) evs0)) (S1 := [Ent.box b 155 (rdCells bs (nextF bs (farD1 x r)).2)]) (S2 := _) rfl (two78 b bs (nextF bs (farD1 x r)).2 hb hok2 x) ?_
  rintro t94 S94 ⟨rfl, E94, rfl⟩
  refine AWL.tuck ?_
  refine ym ?_
  refine Y1 (Yv.extract rfl eV rfl) ?_
  refine Y1 (Yv.extract rfl eV rfl) ?_
  refine Y1 (Yv.assign rfl eV) ?_
  refine ya ?_
  refine rs (ym ?_)
  refine ym ?_
  refine Y1 (Yv.buildS rfl sh_57 (evpC eV (evpC eV (evpC eV evp0))) (fun _ => rfl)) ?_
  refine AWL.storeBox (i := 2) rfl rfl rfl ag_57 rfl (E rfl rfl) (E rfl rfl) rfl rfl nB (nl ?_)
  refine AW.ret (retI (.cellA (i := 2) rfl ag_57 rfl rfl rfl .nil) ?_)
  rw [farR, if_neg (ne_true_of_eq_false h0f), farIn, if_neg (ne_true_of_eq_false h1f), if_neg (ne_true_of_eq_false h2f), if_pos h3t]
  exact ⟨rfl, _, rfl⟩
 try replace h3f := odf h3f
 refine rs (yf fo_183_0 ?_)
 refine yl ag_3 1 ?_
 refine Y1 (Yv.eql rfl eV eV) ?_
 refine ym ?_
 refine gT (Yv.move rfl eV) ?_
 refine gT (Yv.eql rfl (Eg rfl rfl id) eV) ?_
 refine Y1 (Yv.pickAnd rfl eV (Eg rfl rfl id)) ?_
 refine ya ?_
 refine AW.cond rfl (fun h4t => ?_) (fun h4f => ?_)
 ·
  try replace h4t := odt h4t
  refine AW.seq ?_
  refine AW.rseqQ rfl (by kernel_rfl) ?_
  refine qm ?_
  refine Q1 (Yv.nilChk rfl eV) ?_
  refine qf fo_155_1 ?_
  refine ql ag_3 0 ?_
  refine qm ?_
  refine Q1 (Yv.nilChk rfl eV) ?_
  refine qf fo_155_0 ?_
  refine ql ag_27 0 ?_
  refine Q1 (Yv.lenSl rfl so_27 (B rfl) eV len_u8s) ?_
  refine Q1 (Yv.lss rfl eV eV) ?_
  refine qm ?_
  refine kT (Yv.move rfl eV) ?_
  refine kT (Yv.nilChk rfl (Eg rfl rfl id)) ?_
  refine kT (Yv.fieldBox rfl fo_155_0 (Eg rfl rfl id)) ?_
  refine kT (Yv.loadBox rfl ag_27 (i := 0) rfl (Eg rfl rfl id) rfl) ?_
  refine kT (Yv.move rfl eV) ?_
  refine kT (Yv.nilChk rfl (Eg rfl rfl id)) ?_
  refine kT (Yv.fieldBox rfl fo_155_1 (Eg rfl rfl id)) ?_
  refine kT (Yv.loadBox rfl ag_3 (i := 0) rfl (Eg rfl rfl id) rfl) ?_
  refine kT (Yv.indexSl rfl ss_27 (B rfl) (Eg rfl rfl id) (Eg rfl rfl id) (fun hg => ⟨rfl, (by first | omega | (simp only [len_u8s, len_ints]; omega) | (simp only [len_u8s, len_ints]; simp only [Bool.and_eq_true, Bool.or_eq_false_iff, Bool.not_eq_true', Bool.not_eq_false', decide_eq_true_eq, decide_eq_false_iff_not] at hg; omega))⟩)) ?_
  refine kT (Yv.loadRp rfl ag_5 (Eg rfl rfl id) (fun hg => u8_get (by simp only [Bool.true_and, decide_eq_true_eq] at hg; omega))) ?_
  refine kT (Yv.shrC 64 (by decide) (by decide) (by decide) rfl (Eg rfl rfl id) (E rfl rfl)) ?_
  refine kT (Yv.eql rfl (Eg rfl rfl id) eV) ?_
  refine Q1 (Yv.pickAnd rfl eV (Eg rfl rfl id)) ?_
  refine AWQ.nil ?_
  refine AW.cond rfl (fun h5t => ?_) (fun h5f => ?_)
  ·
   try replace h5t := odt h5t
   refine rs (ym ?_)
   refine Y1 (Yv.loadBoxA rfl ag_183 (i := 1) rfl eV rfl rfl) ?_
   refine C1 rfl ce_116 (E rfl rfl) (evsC (E rfl rfl) (evsC (E rfl rfl) evs0)) (S1 := [Ent.box b 155 (rdCells bs (nextF bs (farD1 x r)).2)]) (S2 := _) rfl (mem74 b bs (nextF bs (farD1 x r)).2 hb hok2 x) ?_
   rintro t135 S135 ⟨rfl, E135, rfl⟩
   refine AWL.tuck ?_
   refine ym ?_
   refine Y1 (Yv.extract rfl eV rfl) ?_
   refine Y1 (Yv.extract rfl eV rfl) ?_
   refine Y1 (Yv.extract rfl eV rfl) ?_
   refine Y1 (Yv.assign rfl eV) ?_
   refine Y1 (Yv.assign rfl eV) ?_
   refine ya ?_
   refine rs (ym ?_)
   refine ym ?_
   refine ym ?_
   refine Y1 (Yv.buildS rfl sh_57 (evpC eV (evpC eV (evpC eV (evpC eV (evpC eV evp0))))) (fun _ => rfl)) ?_
   refine AWL.storeBox (i := 2) rfl rfl rfl ag_57 rfl (E rfl rfl) (E rfl rfl) rfl rfl nB (nl ?_)
   refine AW.ret (retI (.cellA (i := 2) rfl ag_57 rfl rfl rfl .nil) ?_)
   rw [farR, if_neg (ne_true_of_eq_false h0f), farIn, if_neg (ne_true_of_eq_false h1f), if_neg (ne_true_of_eq_false h2f), if_neg (ne_true_of_eq_false h3f), if_pos h4t, if_pos (show peekF bs (nextF bs (farD1 x r)).2 = true from h5t)]
   exact ⟨rfl, _, rfl⟩
  try replace h5f := odf h5f
  refine AW.skip ?_
  refine rs (ym ?_)
  refine Y1 (Yv.loadBoxA rfl ag_183 (i := 1) rfl eV rfl rfl) ?_
  refine C1 rfl ce_121 (E rfl rfl) (evsC (E rfl rfl) (evsC (E rfl rfl) evs0)) (S1 := [Ent.box b 155 (rdCells bs (nextF bs (farD1 x r)).2)]) (S2 := _) rfl (two78 b bs (nextF bs (farD1 x r)).2 hb hok2 x) ?_
  rintro t146 S146 ⟨rfl, E146, rfl⟩
  refine AWL.tuck ?_
  refine ym ?_
  refine Y1 (Yv.extract rfl eV rfl) ?_
  refine Y1 (Yv.extract rfl eV rfl) ?_
  refine Y1 (Yv.assign rfl eV) ?_
  refine ya ?_
  refine rs (ym ?_)
  refine ym ?_
  refine Y1 (Yv.buildS rfl sh_57 (evpC eV (evpC eV (evpC eV evp0))) (fun _ => rfl)) ?_
  refine AWL.storeBox (i := 2) rfl rfl rfl ag_57 rfl (E rfl rfl) (E rfl rfl) rfl rfl nB (nl ?_)
  refine AW.ret (retI (.cellA (i := 2) rfl ag_57 rfl rfl rfl .nil) ?_)
  rw [farR, if_neg (ne_true_of_eq_false h0f), farIn, if_neg (ne_true_of_eq_false h1f), if_neg (ne_true_of_eq_false h2f), if_neg (ne_true_of_eq_false h3f), if_pos h4t, if_neg (show ¬ peekF bs (nextF bs (farD1 x r)).2 = true from ne_true_of_eq_false h5f)]
  exact ⟨rfl, _, rfl⟩
 try replace h4f := odf h4f
 refine AW.skip ?_
 refine rs (ym ?_)
 refine C1 rfl ce_99 (E rfl rfl) (evsC (E rfl rfl) (evsC (E rfl rfl) evs0)) (S1 := [Ent.box b 155 (rdCells bs (nextF bs (farD1 x r)).2)]) (S2 := _) rfl (must64 b bs (nextF bs (farD1 x r)).2 false) ?_
 rintro t153 S153 rfl
 refine nl ?_
 refine rs (Y1 (Yv.buildS rfl sh_57 evp0 (fun _ => rfl)) ?_)
 refine AWL.storeBox (i := 2) rfl rfl rfl ag_57 rfl (E rfl rfl) (E rfl rfl) rfl rfl nB (nl ?_)
 refine AW.ret (retI (.cellA (i := 2) rfl ag_57 rfl rfl rfl .nil) ?_)
 rw [farR, if_neg (ne_true_of_eq_false h0f), farIn, if_neg (ne_true_of_eq_false h1f), if_neg (ne_true_of_eq_false h2f), if_neg (ne_true_of_eq_false h3f), if_neg (ne_true_of_eq_false h4f)]
 exact ⟨rfl, _, rfl⟩

end Go.Proofs.YtecpjlhbkmongaaGreat

namespace Go.Proofs.YtecpjlhbkmongaaGreat
open Go Go.RowKit

set_option maxHeartbeats 2000000 in
theorem real67 (b : Nat) (bs : List UInt8) (r : Rd) (hb : bs.length ≤ 1099511627776) (hr : RdOk bs r) (first : Int) :
    ACalls Tryz.prog 102 [pv b, .v (.int .i64 first)] [Ent.box b 155 (rdCells bs r)] (fun t_ S => t_ = insT (realR bs first r).1 ∧ ∃ E, S = Ent.box b 155 (rdCells bs (realR bs first r).2) :: E) := by
 obtain ⟨hx0, hx1⟩ := next_range bs r
 have hok1 : RdOk bs (realD1 bs r) := must_ok (next_ok hr) _
 have hok2 : RdOk bs (realD2 bs r) := must_ok (next_ok hok1) _
 have hok3 := next_ok hok2
 refine ACalls.intro Tryz.func102 rfl Tryz.ntmps102 nB rfl fun X w0 => ?_
 refine rs ?_
 refine AWL.allocOp rfl rfl (B rfl) rfl zc_57 (fun b4 => ?_)
 refine nl ?_
 refine rs (ym ?_)
 refine C1 rfl ce_98 (E rfl rfl) (evsC (E rfl rfl) evs0) (S1 := [Ent.box b 155 (rdCells bs r)]) (S2 := _) rfl (next63 b bs r hb hr) ?_
 rintro t15 S15 ⟨rfl, rfl⟩
 refine ya ?_
 refine AW.seq ?_
 refine rs (ym ?_)
 refine Y1 (Yv.nilChk rfl eV) ?_
 refine yf fo_155_2 ?_
 refine yl ag_4 0 (nl ?_)
 refine AW.cond rfl (fun h0t => ?_) (fun h0f => ?_)
 ·
  try replace h0t := odt h0t
  refine rs (Y1 (Yv.buildS rfl sh_57 evp0 (fun _ => rfl)) ?_)
  refine AWL.storeBox (i := 1) rfl rfl rfl ag_57 rfl (E rfl rfl) (E rfl rfl) rfl rfl nB (nl ?_)
  refine AW.ret (retI (.cellA (i := 1) rfl ag_57 rfl rfl rfl .nil) ?_)
  rw [realR, if_pos h0t]
  exact ⟨rfl, _, rfl⟩
 try replace h0f := odf h0f
 refine AW.skip ?_
 refine rs (ym ?_)
 refine ym ?_
 refine Y1 (Yv.bits rfl rfl eV eV) ?_
 refine Y1 (Yv.eql rfl eV eV) ?_
 refine C1 rfl ce_99 (E rfl rfl) (evsC (E rfl rfl) (evsC (E rfl rfl) evs0)) (S1 := [Ent.box b 155 (rdCells bs (nextF bs r).2)]) (S2 := _) rfl (must64 b bs (nextF bs r).2 (decide (andI (nextF bs r).1 242 = 64))) ?_
 rintro t25 S25 rfl
 refine nl ?_
 refine rs (ym ?_)
 refine AWL.callT rfl rfl (B rfl) rfl ce_101 (E rfl rfl) (evsC (E rfl rfl) evs0) (split66 (nextF bs r).1 hx0 hx1) ?_
 rintro t27 S27 rfl
 refine AWL.allocOp rfl rfl (B rfl) rfl zc_183 (fun b6 => ?_)
 refine AWL.storeBox (i := 2) rfl rfl rfl ag_183 rfl (E rfl rfl) (E rfl rfl) rfl rfl nB (nl ?_)
 refine rs (ym ?_)
 refine C1 rfl ce_98 (E rfl rfl) (evsC (E rfl rfl) evs0) (S1 := [Ent.box b 155 (rdCells bs (realD1 bs r))]) (S2 := _) rfl (next63 b bs (realD1 bs r) hb hok1) ?_
 rintro t29 S29 ⟨rfl, rfl⟩
 refine ya ?_
 refine rs (ym ?_)
 refine ym ?_
 refine Y1 (Yv.eql rfl eV eV) ?_
 refine C1 rfl ce_99 (E rfl rfl) (evsC (E rfl rfl) (evsC (E rfl rfl) evs0)) (S1 := [Ent.box b 155 (rdCells bs (nextF bs (realD1 bs r)).2)]) (S2 := _) rfl (must64 b bs (nextF bs (realD1 bs r)).2 (decide ((nextF bs (realD1 bs r)).1 = 15))) ?_
 rintro t33 S33 rfl
 refine nl ?_
 refine rs (ym ?_)
 refine C1 rfl ce_98 (E rfl rfl) (evsC (E rfl rfl) evs0) (S1 := [Ent.box b 155 (rdCells bs (realD2 bs r))]) (S2 := _) rfl (next63 b bs (realD2 bs r) hb hok2) ?_
 rintro t35 S35 ⟨rfl, rfl⟩
 refine ya ?_
 refine AW.seq ?_
 refine rs (ym ?_)
 refine Y1 (Yv.nilChk rfl eV) ?_
 refine yf fo_155_2 ?_
 refine yl ag_4 0 ?_
 refine ym ?_
 refine gF (Yv.move rfl eV) ?_
 refine gF (Yv.nilChk rfl (Eg rfl rfl id)) ?_
 refine gF (Yv.fieldBox rfl fo_155_3 (Eg rfl rfl id)) ?_
 refine gF (Yv.loadBox rfl ag_4 (i := 0) rfl (Eg rfl rfl id) rfl) ?_
 refine Y1 (Yv.pickOr (t := .const (.bool true)) rfl eV (Eg rfl rfl id)) (nl ?_)
 refine AW.cond rfl (fun h1t => ?_) (fun h1f => ?_)
 ·
  try replace h1t := odt h1t
  refine rs (Y1 (Yv.buildS rfl sh_57 evp0 (fun _ => rfl)) ?_)
  refine AWL.storeBox (i := 1) rfl rfl rfl ag_57 rfl (E rfl rfl) (E rfl rfl) rfl rfl nB (nl ?_)
  refine AW.ret (retI (.cellA (i := 1) rfl ag_57 rfl rfl rfl .nil) ?_)
  rw [realR, if_neg (ne_true_of_eq_false h0f), if_pos h1t]
  exact ⟨rfl, _, rfl⟩
 try replace h1f := odf h1f
 refine AW.skip ?_
 refine ra ?_
 refine AW.mid (α := Unit) (fun _ => [(0, true, pv b), (1, true, .v (.int .i64 first)), (4, true, pv b4), (6, true, pv b6), (8, true, .v (.int .i64 (nextF bs (realD2 bs r)).1)), (9, true, .v (.int .i64 (realK first (splitF (nextF bs r).1) (nextF bs (realD2 bs r)).1)))]) (fun _ => [Ent.box b 155 (rdCells bs (nextF bs (realD2 bs r)).2), .box b4 57 (insCells nilI), .box b6 183 (rxCells (splitF (nextF bs r).1))]) (fun _ => ¬ (decide (first = 102) && decide ((splitF (nextF bs r).1).wide = 1) && decide ((nextF bs (realD2 bs r)).1 = 126)) = true) ?_ ?_
 ·
  refine AW.block ?_
  refine rs (ym ?_)
  refine Y1 (Yv.eql rfl eV eV) ?_
  refine ym ?_
  refine gT (Yv.fieldBox rfl fo_183_0 eV) ?_
  refine gT (Yv.loadBox rfl ag_3 (i := 2) rfl (Eg rfl rfl id) rfl) ?_
  refine gT (Yv.eql rfl (Eg rfl rfl id) eV) ?_
  refine Y1 (Yv.pickAnd rfl eV (Eg rfl rfl id)) ?_
  refine ym ?_
  refine gT (Yv.move rfl eV) ?_
  refine gT (Yv.eql rfl (Eg rfl rfl id) eV) ?_
  refine Y1 (Yv.pickAnd rfl eV (Eg rfl rfl id)) ?_
  refine ya ?_
  refine AW.cond rfl (fun h2t => ?_) (fun h2f => ?_)
  ·
   try replace h2t := odt h2t
   refine AW.region ?_
   refine ya ?_
   exact ⟨(), (by intro hq; simp only [Bool.or_eq_true, Bool.and_eq_true, Bool.or_eq_false_iff, Bool.and_eq_false_iff, Bool.not_eq_true', Bool.not_eq_false', decide_eq_true_eq, decide_eq_false_iff_not, Decidable.not_not] at hq h2t; omega), (su (su (su (su (su (Sub.cons rfl (by rw [realK, if_pos h2t] <;> rfl) Sub.nil)))))), rfl⟩
  try replace h2f := odf h2f
  refine rs (ym ?_)
  refine Y1 (Yv.eql rfl eV eV) ?_
  refine ym ?_
  refine gT (Yv.fieldBox rfl fo_183_0 eV) ?_
  refine gT (Yv.loadBox rfl ag_3 (i := 2) rfl (Eg rfl rfl id) rfl) ?_
  refine gT (Yv.eql rfl (Eg rfl rfl id) eV) ?_
  refine Y1 (Yv.pickAnd rfl eV (Eg rfl rfl id)) ?_
  refine ym ?_
  refine gT (Yv.move rfl eV) ?_
  refine gT (Yv.eql rfl (Eg rfl rfl id) eV) ?_
  refine Y1 (Yv.pickAnd rfl eV (Eg rfl rfl id)) ?_
  refine ya ?_
  refine AW.cond rfl (fun h3t => ?_) (fun h3f => ?_)
  ·
   try replace h3t := odt h3t
   refine rs (ym ?_)
   refine Y1 (Yv.loadBoxA rfl ag_183 (i := 2) rfl eV rfl rfl) ?_
   refine C1 rfl ce_121 (E rfl rfl) (evsC (E rfl rfl) (evsC (E rfl rfl) evs0)) (S1 := [Ent.box b 155 (rdCells bs (nextF bs (realD2 bs r)).2)]) (S2 := _) rfl (two78 b bs (nextF bs (realD2 bs r)).2 hb hok3 (splitF (nextF bs r).1)) ?_
   rintro t74 S74 ⟨rfl, E74, rfl⟩
   refine AWL.tuck ?_
   refine ym ?_
   refine Y1 (Yv.extract rfl eV rfl) ?_
   refine Y1 (Yv.extract rfl eV rfl) ?_
   refine Y1 (Yv.assign rfl eV) ?_
   refine ya ?_
   refine rs (ym ?_)
   refine ym ?_
   refine Y1 (Yv.buildS rfl sh_57 (evpC eV (evpC eV (evpC eV evp0))) (fun _ => rfl)) ?_
   refine AWL.storeBox (i := 1) rfl rfl rfl ag_57 rfl (E rfl rfl) (E rfl rfl) rfl rfl nB (nl ?_)
   refine AW.ret (retI (.cellA (i := 1) rfl ag_57 rfl rfl rfl .nil) ?_)
   rw [realR, if_neg (ne_true_of_eq_false h0f), if_neg (ne_true_of_eq_false h1f), realIn, if_pos h3t]
   exact ⟨rfl, _, rfl⟩
  try replace h3f := odf h3f
  refine rs (ym ?_)
  refine Y1 (Yv.eql rfl eV eV) ?_
  refine ym ?_
  refine gT (Yv.fieldBox rfl fo_183_0 eV) ?_
  refine gT (Yv.loadBox rfl ag_3 (i := 2) rfl (Eg rfl rfl id) rfl) ?_
  refine gT (Yv.eql rfl (Eg rfl rfl id) eV) ?_
  refine Y1 (Yv.pickAnd rfl eV (Eg rfl rfl id)) ?_
  refine ym ?_
  refine gT (Yv.move rfl eV) ?_
  refine gT (Yv.eql rfl (Eg rfl rfl id) eV) ?_
  refine Y1 (Yv.pickAnd rfl eV (Eg rfl rfl id)) ?_
  refine ya ?_
  refine AW.cond rfl (fun h4t => ?_) (fun h4f => ?_)
  ·
   try replace h4t := odt h4t
   refine AW.region ?_
   refine ya ?_
   exact ⟨(), (ne_true_of_eq_false h3f), (su (su (su (su (su (Sub.cons rfl (by rw [realK, if_neg (ne_true_of_eq_false h2f), if_pos h4t] <;> rfl) Sub.nil)))))), rfl⟩
  try replace h4f := odf h4f
  refine rs (ym ?_)
  refine Y1 (Yv.eql rfl eV eV) ?_
  refine ym ?_
  refine gT (Yv.fieldBox rfl fo_183_0 eV) ?_
  refine gT (Yv.loadBox rfl ag_3 (i := 2) rfl (Eg rfl rfl id) rfl) ?_
  refine gT (Yv.eql rfl (Eg rfl rfl id) eV) ?_
  refine Y1 (Yv.pickAnd rfl eV (Eg rfl rfl id)) ?_
  refine ym ?_
  refine gT (Yv.move rfl eV) ?_
  refine gT (Yv.eql rfl (Eg rfl rfl id) eV) ?_
  refine Y1 (Yv.pickAnd rfl eV (Eg rfl rfl id)) ?_
  refine ya ?_
  refine AW.cond rfl (fun h5t => ?_) (fun h5f => ?_)
  ·
   try replace h5t := odt h5t
   refine AW.region ?_
   refine ya ?_
   exact ⟨(), (ne_true_of_eq_false h3f), (su (su (su (su (su (Sub.cons rfl (by rw [realK, if_neg (ne_true_of_eq_false h2f), if_neg (ne_true_of_eq_false h4f), if_pos h5t] <;> rfl) Sub.nil)))))), rfl⟩
  try replace h5f := odf h5f
  refine rs (ym ?_)
  refine Y1 (Yv.eql rfl eV eV) ?_
  refine ym ?_
  refine gT (Yv.fieldBox rfl fo_183_0 eV) ?_
  refine gT (Yv.loadBox rfl ag_3 (i := 2) rfl (Eg rfl rfl id) rfl) ?_
  refine gT (Yv.eql rfl (Eg rfl rfl id) eV) ?_
  refine Y1 (Yv.pickAnd rfl eV (Eg rfl rfl id)) ?_
  refine ym ?_
  refine gT (Yv.move rfl eV) ?_
  refine gT (Yv.eql rfl (Eg rfl rfl id) eV) ?_
  refine Y1 (Yv.pickAnd rfl eV (Eg rfl rfl id)) ?_
  refine ya ?_
  refine AW.cond rfl (fun h6t => ?_) (fun h6f => ?_)
  ·
   try replace h6t := odt h6t
   refine AW.region ?_
   refine ya ?_
   exact ⟨(), (ne_true_of_eq_false h3f), (su (su (su (su (su (Sub.cons rfl (by rw [realK, if_neg (ne_true_of_eq_false h2f), if_neg (ne_true_of_eq_false h4f), if_neg (ne_true_of_eq_false h5f), if_pos h6t] <;> rfl) Sub.nil)))))), rfl⟩
  try replace h6f := odf h6f
  refine rs (ym ?_)
  refine Y1 (Yv.eql rfl eV eV) ?_
  refine ym ?_
  refine gT (Yv.fieldBox rfl fo_183_0 eV) ?_
  refine gT (Yv.loadBox rfl ag_3 (i := 2) rfl (Eg rfl rfl id) rfl) ?_
  refine gT (Yv.eql rfl (Eg rfl rfl id) eV) ?_
  refine Y1 (Yv.pickAnd rfl eV (Eg rfl rfl id)) ?_
  refine ym ?_
  refine gT (Yv.move rfl eV) ?_
  refine gT (Yv.eql rfl (Eg rfl rfl id) eV) ?_
  refine Y1 (Yv.pickAnd rfl eV (Eg rfl rfl id)) ?_
  refine ya ?_
  refine AW.cond rfl (fun h7t => ?_) (fun h7f => ?_)
  ·
   try replace h7t := odt h7t
   refine AW.region ?_
   refine ya ?_
   exact ⟨(), (ne_true_of_eq_false h3f), (su (su (su (su (su (Sub.cons rfl (by rw [realK, if_neg (ne_true_of_eq_false h2f), if_neg (ne_true_of_eq_false h4f), if_neg (ne_true_of_eq_false h5f), if_neg (ne_true_of_eq_false h6f), if_pos h7t] <;> rfl) Sub.nil)))))), rfl⟩
  try replace h7f := odf h7f
  refine rs (ym ?_)
  refine Y1 (Yv.eql rfl eV eV) ?_
  refine ym ?_
  refine gT (Yv.fieldBox rfl fo_183_0 eV) ?_
  refine gT (Yv.loadBox rfl ag_3 (i := 2) rfl (Eg rfl rfl id) rfl) ?_
  refine gT (Yv.eql rfl (Eg rfl rfl id) eV) ?_
  refine Y1 (Yv.pickAnd rfl eV (Eg rfl rfl id)) ?_
  refine ym ?_
  refine gT (Yv.move rfl eV) ?_
  refine gT (Yv.eql rfl (Eg rfl rfl id) eV) ?_
  refine Y1 (Yv.pickAnd rfl eV (Eg rfl rfl id)) ?_
  refine ya ?_
  refine AW.cond rfl (fun h8t => ?_) (fun h8f => ?_)
  ·
   try replace h8t := odt h8t
   refine AW.region ?_
   refine ya ?_
   exact ⟨(), (ne_true_of_eq_false h3f), (su (su (su (su (su (Sub.cons rfl (by rw [realK, if_neg (ne_true_of_eq_false h2f), if_neg (ne_true_of_eq_false h4f), if_neg (ne_true_of_eq_false h5f), if_neg (ne_true_of_eq_false h6f), if_neg (ne_true_of_eq_false h7f), if_pos h8t] <;> rfl) Sub.nil)))))), rfl⟩
  try replace h8f := odf h8f
  refine rs (ym ?_)
  refine Y1 (Yv.eql rfl eV eV) ?_
  refine ym ?_
  refine gT (Yv.fieldBox rfl fo_183_0 eV) ?_
  refine gT (Yv.loadBox rfl ag_3 (i := 2) rfl (Eg rfl rfl id) rfl) ?_
  refine gT (Yv.eql rfl (Eg rfl rfl id) eV) ?_
  refine Y1 (Yv.pickAnd rfl eV (Eg rfl rfl id)) ?_
  refine ym ?_
  refine gT (Yv.move rfl eV) ?_
  refine gT (Yv.eql rfl (Eg rfl rfl id) eV) ?_
  refine Y1 (Yv.pickAnd rfl eV (Eg rfl rfl id)) ?_
  refine ya ?_
  refine AW.cond rfl (fun h9t => ?_) (fun h9f => ?_)
  ·
   try replace h9t := odt h9t
   refine AW.region ?_
   refine ya ?_
   exact ⟨(), (ne_true_of_eq_false h3f), (su (su (su (su (su (Sub.cons rfl (by rw [realK, if_neg (ne_true_of_eq_false h2f), if_neg (ne_true_of_eq_false h4f), if_neg (ne_true_of_eq_false h5f), if_neg (ne_true_of_eq_false h6f), if_neg (ne_true_of_eq_false h7f), if_neg (ne_true_of_eq_false h8f), if_pos h9t] <;> rfl) Sub.nil)))))), rfl⟩
  try replace h9f := odf h9f
  refine AW.skip ?_
  exact ⟨(), (ne_true_of_eq_false h3f), (su (su (su (su (su (Sub.cons rfl (by rw [realK, if_neg (ne_true_of_eq_false h2f), if_neg (ne_true_of_eq_false h4f), if_neg (ne_true_of_eq_false h5f), if_neg (ne_true_of_eq_false h6f), if_neg (ne_true_of_eq_false h7f), if_neg (ne_true_of_eq_false h8f), if_neg (ne_true_of_eq_false h9f)] <;> rfl) Sub.nil)))))), rfl⟩
 ·
  rintro _ hmid
  refine rs (ym ?_)
  refine ym ?_
  refine Y1 (Yv.gtr rfl eV eV) ?_
  refine C1 rfl ce_99 (E rfl rfl) (evsC (E rfl rfl) (evsC (E rfl rfl) evs0)) (S1 := [Ent.box b 155 (rdCells bs (nextF bs (realD2 bs r)).2)]) (S2 := _) rfl (must64 b bs (nextF bs (realD2 bs r)).2 (decide (0 < (realK first (splitF (nextF bs r).1) (nextF bs (realD2 bs r)).1)))) ?_
  rintro t155 S155 rfl
  refine nl ?_
  refine rs (ym ?_)
  refine Y1 (Yv.loadBoxA rfl ag_183 (i := 2) rfl eV rfl rfl) ?_
  refine C1 rfl ce_121 (E rfl rfl) (evsC (E rfl rfl) (evsC (E rfl rfl) evs0)) (S1 := [Ent.box b 155 (rdCells bs (mustF (nextF bs (realD2 bs r)).2 (decide (0 < (realK first (splitF (nextF bs r).1) (nextF bs (realD2 bs r)).1)))))]) (S2 := _) rfl (two78 b bs (mustF (nextF bs (realD2 bs r)).2 (decide (0 < (realK first (splitF (nextF bs r).1) (nextF bs (realD2 bs r)).1)))) hb (must_ok hok3 _) (splitF (nextF bs r).1)) ?_
  rintro t159 S159 ⟨rfl, E159, rfl⟩
  refine AWL.tuck ?_
  refine ym ?_
  refine Y1 (Yv.extract rfl eV rfl) ?_
  refine Y1 (Yv.extract rfl eV rfl) ?_
  refine Y1 (Yv.assign rfl eV) ?_
  refine ya ?_
  refine rs (ym ?_)
  refine ym ?_
  refine ym ?_
  refine Y1 (Yv.buildS rfl sh_57 (evpC eV (evpC eV (evpC eV evp0))) (fun _ => rfl)) ?_
  refine AWL.storeBox (i := 1) rfl rfl rfl ag_57 rfl (E rfl rfl) (E rfl rfl) rfl rfl nB (nl ?_)
  refine AW.ret (retI (.cellA (i := 1) rfl ag_57 rfl rfl rfl .nil) ?_)
  rw [realR, if_neg (ne_true_of_eq_false h0f), if_neg (ne_true_of_eq_false h1f), realIn, if_neg hmid]
  exact ⟨rfl, _, rfl⟩

set_option maxHeartbeats 4000000 in
theorem prefixed65 (b : Nat) (bs : List UInt8) (r : Rd) (hb : bs.length ≤ 1099511627776) (hr : RdOk bs r) (x : Rx) :
    ACalls Tryz.prog 100 [pv b, rxT x] [Ent.box b 155 (rdCells bs r)] (fun t_ S => t_ = insT (prefR bs x r).1 ∧ ∃ E, S = Ent.box b 155 (rdCells bs (prefR bs x r).2) :: E) := by
 obtain ⟨hx0, hx1⟩ := next_range bs r
 have hok1 := next_ok hr
 have hokm : RdOk bs (mustF (nextF bs r).2 (decide (x.reg = 0))) := must_ok hok1 _
 have hoko : RdOk bs (mustF (oneD bs x (nextF bs r).2) (decide ((oneV bs x (nextF bs r).2).1 = 0))) := must_ok (one_ok hok1 x) _
 refine ACalls.intro Tryz.func100 rfl Tryz.ntmps100 nB rfl fun X w0 => ?_
 refine rs ?_
 refine AWL.boxOp rfl rfl (B rfl) rfl (E rfl rfl) rfl (fun b3 => ?_)
 refine AWL.allocOp rfl rfl (B rfl) rfl zc_57 (fun b4 => ?_)
 refine nl ?_
 refine rs (ym ?_)
 refine C1 rfl ce_98 (E rfl rfl) (evsC (E rfl rfl) evs0) (S1 := [Ent.box b 155 (rdCells bs r)]) (S2 := _) rfl (next63 b bs r hb hr) ?_
 rintro t22 S22 ⟨rfl, rfl⟩
 refine ya ?_
 refine AW.seq ?_
 refine rs (ym ?_)
 refine Y1 (Yv.nilChk rfl eV) ?_
 refine yf fo_155_2 ?_
 refine yl ag_4 0 ?_
 refine ym ?_
 refine gF (Yv.move rfl eV) ?_
 refine gF (Yv.nilChk rfl (Eg rfl rfl id)) ?_
 refine gF (Yv.fieldBox rfl fo_155_3 (Eg rfl rfl id)) ?_
 refine gF (Yv.loadBox rfl ag_4 (i := 0) rfl (Eg rfl rfl id) rfl) ?_
 refine Y1 (Yv.pickOr (t := .const (.bool true)) rfl eV (Eg rfl rfl id)) (nl ?_)
 refine AW.cond rfl (fun h0t => ?_) (fun h0f => ?_)
 ·
  try replace h0t := odt h0t
  refine rs (Y1 (Yv.buildS rfl sh_57 evp0 (fun _ => rfl)) ?_)
  refine AWL.storeBox (i := 2) rfl rfl rfl ag_57 rfl (E rfl rfl) (E rfl rfl) rfl rfl nB (nl ?_)
  refine AW.ret (retI (.cellA (i := 2) rfl ag_57 rfl rfl rfl .nil) ?_)
  rw [prefR, if_pos h0t]
  exact ⟨rfl, _, rfl⟩
 try replace h0f := odf h0f
 refine AW.skip ?_
 refine AW.seq ?_
 refine rs (ym ?_)
 refine Y1 (Yv.eql rfl eV eV) (nl ?_)
 refine AW.cond rfl (fun h1t => ?_) (fun h1f => ?_)
 ·
  try replace h1t := odt h1t
  refine rs (ym ?_)
  refine Y1 (Yv.loadBoxA rfl ag_183 (i := 1) rfl eV rfl rfl) ?_
  refine C1 rfl ce_113 (E rfl rfl) (evsC (E rfl rfl) (evsC (E rfl rfl) evs0)) (S1 := [Ent.box b 155 (rdCells bs (nextF bs r).2)]) (S2 := _) rfl (far72 b bs (nextF bs r).2 hb hok1 x) ?_
  rintro t38 S38 ⟨rfl, E38, rfl⟩
  refine AWL.tuck ?_
  refine AWL.storeBox (i := 2) rfl rfl rfl ag_57 rfl (E rfl rfl) (E rfl rfl) rfl rfl nB (nl ?_)
  refine AW.ret (retI (.cellA (i := 2) rfl ag_57 rfl rfl rfl .nil) ?_)
  rw [prefR, if_neg (ne_true_of_eq_false h0f), prefIn, if_pos h1t]
  exact ⟨rfl, _, rfl⟩
 try replace h1f := odf h1f
 refine AW.skip ?_
 refine AW.seq ?_
 refine rs (yf fo_183_0 ?_)
 refine yl ag_3 1 ?_
 refine Y1 (Yv.eql rfl eV eV) (nl ?_)
 refine AW.cond rfl (fun h2t => ?_) (fun h2f => ?_)
 ·
  try replace h2t := odt h2t
  refine rs (ym ?_)
  refine Y1 (Yv.loadBoxA rfl ag_183 (i := 1) rfl eV rfl rfl) ?_
  refine ym ?_
  refine C1 rfl ce_114 (E rfl rfl) (evsC (E rfl rfl) (evsC (E rfl rfl) (evsC (E rfl rfl) evs0))) (S1 := [Ent.box b 155 (rdCells bs (nextF bs r).2)]) (S2 := _) rfl (narrow73 b bs (nextF bs r).2 hb hok1 x (nextF bs r).1 hx0 hx1) ?_
  rintro t45 S45 ⟨rfl, E45, rfl⟩
  refine AWL.tuck ?_
  refine AWL.storeBox (i := 2) rfl rfl rfl ag_57 rfl (E rfl rfl) (E rfl rfl) rfl rfl nB (nl ?_)
  refine AW.ret (retI (.cellA (i := 2) rfl ag_57 rfl rfl rfl .nil) ?_)
  rw [prefR, if_neg (ne_true_of_eq_false h0f), prefIn, if_neg h1f, if_pos h2t]
  exact ⟨rfl, _, rfl⟩
 try replace h2f := odf h2f
 refine AW.skip ?_
 refine AW.seq ?_
 refine rs (ym ?_)
 refine Y1 (Yv.bits rfl rfl eV eV) ?_
 refine Y1 (Yv.eql rfl eV eV) (nl ?_)
 refine AW.cond rfl (fun h3t => ?_) (fun h3f => ?_)
 ·
  try replace h3t := odt h3t
  refine rs (ym ?_)
  refine yf fo_183_1 ?_
  refine yl ag_3 1 ?_
  refine Y1 (Yv.eql rfl eV eV) ?_
  refine C1 rfl ce_99 (E rfl rfl) (evsC (E rfl rfl) (evsC (E rfl rfl) evs0)) (S1 := [Ent.box b 155 (rdCells bs (nextF bs r).2)]) (S2 := _) rfl (must64 b bs (nextF bs r).2 (decide (x.reg = 0))) ?_
  rintro t53 S53 rfl
  refine nl ?_
  refine AW.mid (α := Nat) (fun b6 => [(0, true, pv b), (3, true, pv b3), (4, true, pv b4), (6, true, pv b6)]) (fun b6 => [Ent.box b 155 (rdCells bs (immD bs (mustF (nextF bs r).2 (decide (x.reg = 0))) 8)), .box b3 183 (rxCells x), .box b4 57 (insCells nilI), .box b6 57 (insCells ⟨2, orI x.rm ((nextF bs r).1 % 8), 0, 0, 0, (immV bs (mustF (nextF bs r).2 (decide (x.reg = 0))) 8)⟩)]) (fun _ => True) ?_ ?_
  ·
   refine AW.regionH (HeldBox b3 (rxVals x)) rfl (tells_box (k := 1) rfl) ?_
   refine AWH.tk (i := 0) rfl rfl rfl (B rfl) (heldAll (freeField rfl fo_183_2 (E rfl rfl))) ?_
   refine AWH.tk (i := 1) rfl rfl rfl (B rfl) (heldLoad rfl ag_3 (E rfl rfl) rfl) ?_
   refine AWH.tk (i := 2) rfl rfl rfl (B rfl) (heldAll (freeMove rfl (E rfl rfl))) ?_
   refine AWH.tk (i := 3) rfl rfl rfl (B rfl) (heldAll (freeAndN_i64 3 8 (by decide) (by decide) (by decide) rfl (E rfl rfl) (E rfl rfl) ⟨by omega, by omega⟩)) ?_
   refine AWH.tk (i := 4) rfl rfl rfl (B rfl) (heldAll (freeBits rfl rfl (E rfl rfl) (E rfl rfl))) ?_
   refine AWH.tk (i := 5) rfl rfl rfl (B rfl) (heldAll (freeMove rfl (E rfl rfl))) ?_
   refine AWH.two (i := 6) (j := 8) (by kernel_rfl) rfl rfl ?_ ?_
   ·
    refine C1 rfl ce_103 (E rfl rfl) (evsC (E rfl rfl) (evsC (E rfl rfl) evs0)) (S1 := [Ent.box b 155 (rdCells bs (mustF (nextF bs r).2 (decide (x.reg = 0))))]) (S2 := _) rfl (imm68 b bs (mustF (nextF bs r).2 (decide (x.reg = 0))) hb hokm 8 (.inr (.inr rfl))) ?_
    rintro t60 S60 ⟨rfl, rfl⟩
    refine tb 1 rfl ?_
    refine AWH.two (i := 7) (j := 8) (by kernel_rfl) rfl rfl ?_ ?_
    ·
     refine Y1 (Yv.buildS rfl sh_57 (evpC eV (evpC eV (evpC eV evp0))) (fun _ => rfl)) ?_
     refine tb 1 rfl ?_
     refine AWH.one (i := 8) (by kernel_rfl) rfl ?_
     refine AWL.allocOp rfl rfl (B rfl) rfl zc_57 (fun b6 => ?_)
     refine tb 1 rfl ?_
     refine AWH.one (i := 9) (by kernel_rfl) rfl ?_
     refine AWL.storeBox (i := 3) rfl rfl rfl ag_57 rfl (E rfl rfl) (E rfl rfl) rfl rfl nB ?_
     refine tb 1 rfl ?_
     refine AWH.done (by kernel_rfl) ?_
     exact ⟨b6, trivial, (su (su (su (su sn)))), rfl⟩
    ·
     refine AWL.allocOp rfl rfl (B rfl) rfl zc_57 (fun b6 => ?_)
     refine tb 1 rfl ?_
     refine AWH.one (i := 7) (by kernel_rfl) rfl ?_
     refine Y1 (Yv.buildS rfl sh_57 (evpC eV (evpC eV (evpC eV evp0))) (fun _ => rfl)) ?_
     refine tb 1 rfl ?_
     refine AWH.one (i := 9) (by kernel_rfl) rfl ?_
     refine AWL.storeBox (i := 3) rfl rfl rfl ag_57 rfl (E rfl rfl) (E rfl rfl) rfl rfl nB ?_
     refine tb 1 rfl ?_
     refine AWH.done (by kernel_rfl) ?_
     exact ⟨b6, trivial, (su (su (su (su sn)))), rfl⟩
   ·
    refine AWL.allocOp rfl rfl (B rfl) rfl zc_57 (fun b6 => ?_)
    refine tb 1 rfl ?_
    refine AWH.one (i := 6) (by kernel_rfl) rfl ?_
    refine C1 rfl ce_103 (E rfl rfl) (evsC (E rfl rfl) (evsC (E rfl rfl) evs0)) (S1 := [Ent.box b 155 (rdCells bs (mustF (nextF bs r).2 (decide (x.reg = 0))))]) (S2 := _) rfl (imm68 b bs (mustF (nextF bs r).2 (decide (x.reg = 0))) hb hokm 8 (.inr (.inr rfl))) ?_
    rintro t60 S60 ⟨rfl, rfl⟩
    refine tb 1 rfl ?_
    refine AWH.one (i := 7) (by kernel_rfl) rfl ?_
    refine Y1 (Yv.buildS rfl sh_57 (evpC eV (evpC eV (evpC eV evp0))) (fun _ => rfl)) ?_
    refine tb 1 rfl ?_
    refine AWH.one (i := 9) (by kernel_rfl) rfl ?_
    refine AWL.storeBox (i := 3) rfl rfl rfl ag_57 rfl (E rfl rfl) (E rfl rfl) rfl rfl nB ?_
    refine tb 1 rfl ?_
    refine AWH.done (by kernel_rfl) ?_
    exact ⟨b6, trivial, (su (su (su (su sn)))), rfl⟩
  ·
   rintro b6 hmid
   refine rs (ym ?_)
   refine yf fo_57_5 ?_
   refine yl ag_2 3 ?_
   refine AWL.callP rfl rfl (B rfl) rfl ce_115 (E rfl rfl) (evsC (E rfl rfl) evs0) (small38 (immV bs (mustF (nextF bs r).2 (decide (x.reg = 0))) 8)) (fun t S h => h) ?_
   refine Y1 (Yv.not rfl eV) ?_
   refine C1 rfl ce_99 (E rfl rfl) (evsC (E rfl rfl) (evsC (E rfl rfl) evs0)) (S1 := [Ent.box b 155 (rdCells bs (immD bs (mustF (nextF bs r).2 (decide (x.reg = 0))) 8))]) (S2 := _) rfl (must64 b bs (immD bs (mustF (nextF bs r).2 (decide (x.reg = 0))) 8) (!smallF (immV bs (mustF (nextF bs r).2 (decide (x.reg = 0))) 8))) ?_
   rintro t67 S67 rfl
   refine nl ?_
   refine rs (Y1 (Yv.loadBoxA rfl ag_57 (i := 3) rfl eV rfl rfl) ?_)
   refine AWL.storeBox (i := 2) rfl rfl rfl ag_57 rfl (E rfl rfl) (E rfl rfl) rfl rfl nB (nl ?_)
   refine AW.ret (retI (.cellA (i := 2) rfl ag_57 rfl rfl rfl .nil) ?_)
   rw [prefR, if_neg (ne_true_of_eq_false h0f), prefIn, if_neg h1f, if_neg h2f, if_pos h3t]
   exact ⟨rfl, _, rfl⟩
 try replace h3f := odf h3f
 refine AW.skip ?_
 refine AW.seq ?_
 refine rs (ym (nl ?_))
 refine AW.block ?_
 refine rs (Y1 (Yv.eql rfl eV eV) ?_)
 refine ya ?_
 refine AW.cond rfl (fun h4t => ?_) (fun h4f => ?_)
 ·
  try replace h4t := odt h4t
  refine rs (ym ?_)
  refine Y1 (Yv.loadBoxA rfl ag_183 (i := 1) rfl eV rfl rfl) ?_
  refine C1 rfl ce_116 (E rfl rfl) (evsC (E rfl rfl) (evsC (E rfl rfl) evs0)) (S1 := [Ent.box b 155 (rdCells bs (nextF bs r).2)]) (S2 := _) rfl (mem74 b bs (nextF bs r).2 hb hok1 x) ?_
  rintro t75 S75 ⟨rfl, E75, rfl⟩
  refine AWL.tuck ?_
  refine ym ?_
  refine Y1 (Yv.extract rfl eV rfl) ?_
  refine Y1 (Yv.extract rfl eV rfl) ?_
  refine Y1 (Yv.extract rfl eV rfl) ?_
  refine Y1 (Yv.assign rfl eV) ?_
  refine Y1 (Yv.assign rfl eV) ?_
  refine ya ?_
  refine rs (ym ?_)
  refine ym ?_
  refine ym ?_
  refine Y1 (Yv.buildS rfl sh_57 (evpC eV (evpC eV (evpC eV (evpC eV (evpC eV evp0))))) (fun _ => rfl)) ?_
  refine AWL.storeBox (i := 2) rfl rfl rfl ag_57 rfl (E rfl rfl) (E rfl rfl) rfl rfl nB (nl ?_)
  refine AW.ret (retI (.cellA (i := 2) rfl ag_57 rfl rfl rfl .nil) ?_)
  rw [prefR, if_neg (ne_true_of_eq_false h0f), prefIn, if_neg h1f, if_neg h2f, if_neg h3f, if_pos h4t]
  exact ⟨rfl, _, rfl⟩
 try replace h4f := odf h4f
 refine rs (Y1 (Yv.eql rfl eV eV) ?_)
 refine ya ?_
 refine AW.cond rfl (fun h5t => ?_) (fun h5f => ?_)
 ·
  try replace h5t := odt h5t
  refine rs (ym ?_)
  refine Y1 (Yv.loadBoxA rfl ag_183 (i := 1) rfl eV rfl rfl) ?_
  refine C1 rfl ce_116 (E rfl rfl) (evsC (E rfl rfl) (evsC (E rfl rfl) evs0)) (S1 := [Ent.box b 155 (rdCells bs (nextF bs r).2)]) (S2 := _) rfl (mem74 b bs (nextF bs r).2 hb hok1 x) ?_
  rintro t88 S88 ⟨rfl, E88, rfl⟩
  refine AWL.tuck ?_
  refine ym ?_
  refine Y1 (Yv.extract rfl eV rfl) ?_
  refine Y1 (Yv.extract rfl eV rfl) ?_
  refine Y1 (Yv.extract rfl eV rfl) ?_
  refine Y1 (Yv.assign rfl eV) ?_
  refine Y1 (Yv.assign rfl eV) ?_
  refine ya ?_
  refine rs (ym ?_)
  refine ym ?_
  refine ym ?_
  refine Y1 (Yv.buildS rfl sh_57 (evpC eV (evpC eV (evpC eV (evpC eV evp0)))) (fun _ => rfl)) ?_
  refine AWL.storeBox (i := 2) rfl rfl rfl ag_57 rfl (E rfl rfl) (E rfl rfl) rfl rfl nB (nl ?_)
  refine AW.ret (retI (.cellA (i := 2) rfl ag_57 rfl rfl rfl .nil) ?_)
  rw [prefR, if_neg (ne_true_of_eq_false h0f), prefIn, if_neg h1f, if_neg h2f, if_neg h3f, if_neg h4f, if_pos h5t]
  exact ⟨rfl, _, rfl⟩
 try replace h5f := odf h5f
 refine rs (Y1 (Yv.eql rfl eV eV) ?_)
 refine ya ?_
 refine AW.cond rfl (fun h6t => ?_) (fun h6f => ?_)
 ·
  try replace h6t := odt h6t
  refine rs (ym ?_)
  refine Y1 (Yv.loadBoxA rfl ag_183 (i := 1) rfl eV rfl rfl) ?_
  refine C1 rfl ce_117 (E rfl rfl) (evsC (E rfl rfl) (evsC (E rfl rfl) evs0)) (S1 := [Ent.box b 155 (rdCells bs (nextF bs r).2)]) (S2 := _) rfl (moved75 b bs (nextF bs r).2 hb hok1 x) ?_
  rintro t100 S100 ⟨rfl, E100, rfl⟩
  refine AWL.tuck ?_
  refine AWL.storeBox (i := 2) rfl rfl rfl ag_57 rfl (E rfl rfl) (E rfl rfl) rfl rfl nB (nl ?_)
  refine AW.ret (retI (.cellA (i := 2) rfl ag_57 rfl rfl rfl .nil) ?_)
  rw [prefR, if_neg (ne_true_of_eq_false h0f), prefIn, if_neg h1f, if_neg h2f, if_neg h3f, if_neg h4f, if_neg h5f, if_pos h6t]
  exact ⟨rfl, _, rfl⟩
 try replace h6f := odf h6f
 refine rs (Y1 (Yv.eql rfl eV eV) ?_)
 refine ya ?_
 refine AW.cond rfl (fun h7t => ?_) (fun h7f => ?_)
 ·
  try replace h7t := odt h7t
  refine rs (ym ?_)
  refine Y1 (Yv.loadBoxA rfl ag_183 (i := 1) rfl eV rfl rfl) ?_
  refine C1 rfl ce_118 (E rfl rfl) (evsC (E rfl rfl) (evsC (E rfl rfl) evs0)) (S1 := [Ent.box b 155 (rdCells bs (nextF bs r).2)]) (S2 := _) rfl (one76 b bs (nextF bs r).2 hb hok1 x) ?_
  rintro t106 S106 ⟨rfl, E106, rfl⟩
  refine AWL.tuck ?_
  refine ym ?_
  refine Y1 (Yv.extract rfl eV rfl) ?_
  refine Y1 (Yv.extract rfl eV rfl) ?_
  refine Y1 (Yv.assign rfl eV) ?_
  refine ya ?_
  refine rs (ym ?_)
  refine ym ?_
  refine Y1 (Yv.eql rfl eV eV) ?_
  refine C1 rfl ce_99 (E rfl rfl) (evsC (E rfl rfl) (evsC (E rfl rfl) evs0)) (S1 := [Ent.box b 155 (rdCells bs (oneD bs x (nextF bs r).2))]) (S2 := _) rfl (must64 b bs (oneD bs x (nextF bs r).2) (decide ((oneV bs x (nextF bs r).2).1 = 0))) ?_
  rintro t112 S112 rfl
  refine nl ?_
  refine rs (ym ?_)
  refine ym ?_
  refine C1 rfl ce_103 (E rfl rfl) (evsC (E rfl rfl) (evsC (E rfl rfl) evs0)) (S1 := [Ent.box b 155 (rdCells bs (mustF (oneD bs x (nextF bs r).2) (decide ((oneV bs x (nextF bs r).2).1 = 0))))]) (S2 := _) rfl (imm68 b bs (mustF (oneD bs x (nextF bs r).2) (decide ((oneV bs x (nextF bs r).2).1 = 0))) hb hoko 4 (.inr (.inl rfl))) ?_
  rintro t115 S115 ⟨rfl, rfl⟩
  refine Y1 (Yv.buildS rfl sh_57 (evpC eV (evpC eV (evpC eV evp0))) (fun _ => rfl)) ?_
  refine AWL.storeBox (i := 2) rfl rfl rfl ag_57 rfl (E rfl rfl) (E rfl rfl) rfl rfl nB (nl ?_)
  refine AW.ret (retI (.cellA (i := 2) rfl ag_57 rfl rfl rfl .nil) ?_)
  rw [prefR, if_neg (ne_true_of_eq_false h0f), prefIn, if_neg h1f, if_neg h2f, if_neg h3f, if_neg h4f, if_neg h5f, if_neg h6f, if_pos h7t]
  exact ⟨rfl, _, rfl⟩
 try replace h7f := odf h7f
 refine AW.mid (α := Unit) (fun _ => [(0, true, pv b), (3, true, pv b3), (4, true, pv b4), (5, true, .v (.int .i64 (nextF bs r).1)), (117, true, .v (.bool (decide ((nextF bs r).1 = 129) || (decide ((nextF bs r).1 = 247) || (decide ((nextF bs r).1 = 211) || decide ((nextF bs r).1 = 193))))))]) (fun _ => [Ent.box b 155 (rdCells bs (nextF bs r).2), .box b3 183 (rxCells x), .box b4 57 (insCells nilI)]) (fun _ => True) ?_ ?_
 ·
  refine rs (Y1 (Yv.eql rfl eV eV) ?_)
  refine ya ?_
  refine AW.cond rfl (fun h8t => ?_) (fun h8f => ?_)
  ·
   try replace h8t := odt h8t
   refine AW.skip ?_
   exact ⟨(), trivial, (su (su (su (su (Sub.cons rfl (by simp [h8t]) Sub.nil))))), rfl⟩
  try replace h8f := odf h8f
  refine rs (Y1 (Yv.eql rfl eV eV) ?_)
  refine ya ?_
  refine AW.cond rfl (fun h9t => ?_) (fun h9f => ?_)
  ·
   try replace h9t := odt h9t
   refine AW.skip ?_
   exact ⟨(), trivial, (su (su (su (su (Sub.cons rfl (by simp [h8f, h9t]) Sub.nil))))), rfl⟩
  try replace h9f := odf h9f
  refine rs (Y1 (Yv.eql rfl eV eV) ?_)
  refine ya ?_
  refine AW.cond rfl (fun h10t => ?_) (fun h10f => ?_)
  ·
   try replace h10t := odt h10t
   refine AW.skip ?_
   exact ⟨(), trivial, (su (su (su (su (Sub.cons rfl (by simp [h8f, h9f, h10t]) Sub.nil))))), rfl⟩
  try replace h10f := odf h10f
  refine AW.region ?_
  refine Y1 (Yv.eql rfl eV eV) ?_
  refine ya ?_
  exact ⟨(), trivial, (su (su (su (su (Sub.cons rfl (by simp [h8f, h9f, h10f]) Sub.nil))))), rfl⟩
 ·
  rintro _ hmid
  refine AW.cond rfl (fun h11t => ?_) (fun h11f => ?_)
  ·
   try replace h11t := odt h11t
   have h11 := h11t
   simp only [Bool.or_eq_true, decide_eq_true_eq] at h11
   refine rs (ym ?_)
   refine Y1 (Yv.loadBoxA rfl ag_183 (i := 1) rfl eV rfl rfl) ?_
   refine ym ?_
   refine C1 rfl ce_119 (E rfl rfl) (evsC (E rfl rfl) (evsC (E rfl rfl) (evsC (E rfl rfl) evs0))) (S1 := [Ent.box b 155 (rdCells bs (nextF bs r).2)]) (S2 := _) rfl (numbered77 b bs (nextF bs r).2 hb hok1 x (nextF bs r).1) ?_
   rintro t125 S125 ⟨rfl, E125, rfl⟩
   refine AWL.tuck ?_
   refine AWL.storeBox (i := 2) rfl rfl rfl ag_57 rfl (E rfl rfl) (E rfl rfl) rfl rfl nB (nl ?_)
   refine AW.ret (retI (.cellA (i := 2) rfl ag_57 rfl rfl rfl .nil) ?_)
   rw [prefR, if_neg (ne_true_of_eq_false h0f), prefIn, if_neg h1f, if_neg h2f, if_neg h3f, if_neg h4f, if_neg h5f, if_neg h6f, if_neg h7f, if_pos h11]
   exact ⟨rfl, _, rfl⟩
  try replace h11f := odf h11f
  have h11 := h11f
  simp only [Bool.or_eq_false_iff, decide_eq_false_iff_not] at h11
  have h11n : ¬ ((nextF bs r).1 = 129 ∨ (nextF bs r).1 = 247 ∨ (nextF bs r).1 = 211 ∨ (nextF bs r).1 = 193) := by omega
  refine AW.skip ?_
  refine AW.seq ?_
  refine rs ?_
  refine AWL.buildSlice1 rfl rfl (B rfl) rfl el_112 rfl (evsC (E rfl rfl) (evsC (E rfl rfl) (evsC (E rfl rfl) (evsC (E rfl rfl) (evsC (E rfl rfl) (evsC (E rfl rfl) (evsC (E rfl rfl) (evsC (E rfl rfl) (evsC (E rfl rfl) evs0))))))))) nB rfl rfl ?_
  refine Y1 (Yv.lenSl rfl so_112 (B rfl) eV (show _ = 9 * 1 from rfl)) ?_
  refine ym (nl ?_)
  refine AW.block ?_
  refine AW.loop (fun (j : Nat) => [(0, true, pv b), (3, true, pv b3), (4, true, pv b4), (5, true, .v (.int .i64 (nextF bs r).1)), (126, true, .sl 1 (ints kindsP)), (127, true, .v (.int .i64 9)), (128, true, .v (.int .i64 (j : Int)))]) (fun (j : Nat) => [Ent.box b 155 (rdCells bs (nextF bs r).2), .box b3 183 (rxCells x), .box b4 57 (insCells nilI)]) (fun (j : Nat) => j ≤ 9 ∧ ∀ i, i < j → ¬ (opF (kindsP.getD i 0)).1 = (nextF bs r).1) (fun (j : Nat) => 9 - j) 0 ?_ ?_ ?_ ?_
  ·exact ⟨Nat.zero_le _, fun i hi => by omega⟩
  ·exact (su (su (su (su (su (su (su sn)))))))
  ·rfl
  ·
   intro j hinv
   obtain ⟨hj, hpre⟩ := hinv
   refine rs (Y1 (Yv.lss rfl eV eV) (nl ?_))
   refine AW.seq ?_
   refine AW.cond rfl (fun h12t => ?_) (fun h12f => ?_)
   ·
    try replace h12t := odt h12t
    refine AW.skip ?_
    refine AW.seq ?_
    refine AW.block ?_
    refine rs (Y1 (Yv.indexSl (j := j) rfl ss_112 (B rfl) eV eV (fun hg => ⟨rfl, by show j * 1 < 9; omega⟩)) ?_)
    refine Y1 (Yv.loadRp rfl ag_3 eV (fun hg => ints_get (by show j < 9; omega))) ?_
    refine ya ?_
    refine rs (ym ?_)
    refine AWL.callT rfl rfl (B rfl) rfl ce_120 (E rfl rfl) (evsC (E rfl rfl) evs0) (opcode33 (kindsP.getD j 0)) ?_
    rintro t134 S134 rfl
    refine ym ?_
    refine Y1 (Yv.extract rfl eV rfl) ?_
    refine Y1 (Yv.extract rfl eV rfl) ?_
    refine Y1 (Yv.assign rfl eV) ?_
    refine ya ?_
    refine rs (ym ?_)
    refine ym ?_
    refine Y1 (Yv.eql rfl eV eV) (nl ?_)
    refine AW.cond rfl (fun h13t => ?_) (fun h13f => ?_)
    ·
     try replace h13t := odt h13t
     refine rs (ym ?_)
     refine Y1 (Yv.loadBoxA rfl ag_183 (i := 1) rfl eV rfl rfl) ?_
     refine C1 rfl ce_121 (E rfl rfl) (evsC (E rfl rfl) (evsC (E rfl rfl) evs0)) (S1 := [Ent.box b 155 (rdCells bs (nextF bs r).2)]) (S2 := _) rfl (two78 b bs (nextF bs r).2 hb hok1 x) ?_
     rintro t143 S143 ⟨rfl, E143, rfl⟩
     refine AWL.tuck ?_
     refine ym ?_
     refine Y1 (Yv.extract rfl eV rfl) ?_
     refine Y1 (Yv.extract rfl eV rfl) ?_
     refine Y1 (Yv.assign rfl eV) ?_
     refine ya ?_
     refine rs (ym ?_)
     refine ym ?_
     refine ym ?_
     refine Y1 (Yv.buildS rfl sh_57 (evpC eV (evpC eV (evpC eV evp0))) (fun _ => rfl)) ?_
     refine AWL.storeBox (i := 2) rfl rfl rfl ag_57 rfl (E rfl rfl) (E rfl rfl) rfl rfl nB (nl ?_)
     refine AW.ret (retI (.cellA (i := 2) rfl ag_57 rfl rfl rfl .nil) ?_)
     rw [prefR, if_neg (ne_true_of_eq_false h0f), prefIn, if_neg h1f, if_neg h2f, if_neg h3f, if_neg h4f, if_neg h5f, if_neg h6f, if_neg h7f, if_neg h11n, kindP_at (show j < 9 by omega) hpre h13t]
     exact ⟨rfl, _, rfl⟩
    try replace h13f := odf h13f
    refine AW.skip ?_
    refine AW.region ?_
    refine Y1 (Yv.addN_i64 rfl eV eV (fun hg => by omega)) ?_
    refine ym (nl ?_)
    refine ⟨j + 1, ⟨by omega, fun i hi => ?_⟩, by omega, su (su (su (su (su (su (Sub.cons rfl (by simp) Sub.nil)))))), rfl⟩
    rcases Nat.lt_or_ge i j with h | h
    ·exact hpre i h
    ·rw [show i = j by omega]; exact h13f
   try replace h12f := odf h12f
   refine AW.exit ?_
   refine rs (ym ?_)
   refine C1 rfl ce_99 (E rfl rfl) (evsC (E rfl rfl) (evsC (E rfl rfl) evs0)) (S1 := [Ent.box b 155 (rdCells bs (nextF bs r).2)]) (S2 := _) rfl (must64 b bs (nextF bs r).2 false) ?_
   rintro t152 S152 rfl
   refine nl ?_
   refine rs (Y1 (Yv.buildS rfl sh_57 evp0 (fun _ => rfl)) ?_)
   refine AWL.storeBox (i := 2) rfl rfl rfl ag_57 rfl (E rfl rfl) (E rfl rfl) rfl rfl nB (nl ?_)
   refine AW.ret (retI (.cellA (i := 2) rfl ag_57 rfl rfl rfl .nil) ?_)
   rw [prefR, if_neg (ne_true_of_eq_false h0f), prefIn, if_neg h1f, if_neg h2f, if_neg h3f, if_neg h4f, if_neg h5f, if_neg h6f, if_neg h7f, if_neg h11n, kindP_none (fun i hi => hpre i (by omega))]
   exact ⟨rfl, _, rfl⟩

set_option maxHeartbeats 4000000 in
theorem instruction54 (b : Nat) (bs : List UInt8) (r : Rd) (hb : bs.length ≤ 1099511627776) (hr : RdOk bs r) :
    ACalls Tryz.prog 76 [pv b] [Ent.box b 155 (rdCells bs r)] (fun t_ S => t_ = insT (insR bs r).1 ∧ ∃ E, S = Ent.box b 155 (rdCells bs (insR bs r).2) :: E) := by
 obtain ⟨hx0, hx1⟩ := next_range bs r
 have hok1 := next_ok hr
 obtain ⟨hy0, hy1⟩ := next_range bs (nextF bs r).2
 have hok2 := next_ok hok1
 refine ACalls.intro Tryz.func76 rfl Tryz.ntmps76 nB rfl fun X w0 => ?_
 refine rs ?_
 refine AWL.allocOp rfl rfl (B rfl) rfl zc_57 (fun b2 => ?_)
 refine nl ?_
 refine rs (ym ?_)
 refine C1 rfl ce_98 (E rfl rfl) (evsC (E rfl rfl) evs0) (S1 := [Ent.box b 155 (rdCells bs r)]) (S2 := _) rfl (next63 b bs r hb hr) ?_
 rintro t6 S6 ⟨rfl, rfl⟩
 refine ya ?_
 refine AW.seq ?_
 refine AW.block ?_
 refine rs (ym ?_)
 refine Y1 (Yv.nilChk rfl eV) ?_
 refine yf fo_155_2 ?_
 refine yl ag_4 0 ?_
 refine ya ?_
 refine AW.cond rfl (fun h0t => ?_) (fun h0f => ?_)
 ·
  try replace h0t := odt h0t
  refine rs (Y1 (Yv.buildS rfl sh_57 evp0 (fun _ => rfl)) ?_)
  refine AWL.storeBox (i := 1) rfl rfl rfl ag_57 rfl (E rfl rfl) (E rfl rfl) rfl rfl nB (nl ?_)
  refine AW.ret (retI (.cellA (i := 1) rfl ag_57 rfl rfl rfl .nil) ?_)
  rw [insR, if_pos h0t]
  exact ⟨rfl, _, rfl⟩
 try replace h0f := odf h0f
 refine rs (ym ?_)
 refine Y1 (Yv.bits rfl rfl eV eV) ?_
 refine Y1 (Yv.eql rfl eV eV) ?_
 refine ya ?_
 refine AW.cond rfl (fun h1t => ?_) (fun h1f => ?_)
 ·
  try replace h1t := odt h1t
  refine rs (ym ?_)
  refine ym ?_
  refine Y1 (Yv.bits rfl rfl eV eV) ?_
  refine Y1 (Yv.eql rfl eV eV) ?_
  refine C1 rfl ce_99 (E rfl rfl) (evsC (E rfl rfl) (evsC (E rfl rfl) evs0)) (S1 := [Ent.box b 155 (rdCells bs (nextF bs r).2)]) (S2 := _) rfl (must64 b bs (nextF bs r).2 (decide (andI (nextF bs r).1 2 = 0))) ?_
  rintro t21 S21 rfl
  refine nl ?_
  refine rs (ym ?_)
  refine ym ?_
  refine AWL.callT rfl rfl (B rfl) rfl ce_101 (E rfl rfl) (evsC (E rfl rfl) evs0) (split66 (nextF bs r).1 hx0 hx1) ?_
  rintro t24 S24 rfl
  refine C1 rfl ce_100 (E rfl rfl) (evsC (E rfl rfl) (evsC (E rfl rfl) evs0)) (S1 := [Ent.box b 155 (rdCells bs (mustF (nextF bs r).2 (decide (andI (nextF bs r).1 2 = 0))))]) (S2 := _) rfl (prefixed65 b bs (mustF (nextF bs r).2 (decide (andI (nextF bs r).1 2 = 0))) hb (must_ok hok1 _) (splitF (nextF bs r).1)) ?_
  rintro t25 S25 ⟨rfl, E25, rfl⟩
  refine AWL.tuck ?_
  refine AWL.storeBox (i := 1) rfl rfl rfl ag_57 rfl (E rfl rfl) (E rfl rfl) rfl rfl nB (nl ?_)
  refine AW.ret (retI (.cellA (i := 1) rfl ag_57 rfl rfl rfl .nil) ?_)
  rw [insR, if_neg (ne_true_of_eq_false h0f), insIn, if_pos h1t]
  exact ⟨rfl, _, rfl⟩
 try replace h1f := odf h1f
 refine rs (ym ?_)
 refine Y1 (Yv.eql rfl eV eV) ?_
 refine ym ?_
 refine gF (Yv.move rfl eV) ?_
 refine gF (Yv.eql rfl (Eg rfl rfl id) eV) ?_
 refine Y1 (Yv.pickOr (t := .const (.bool true)) rfl eV (Eg rfl rfl id)) ?_
 refine ya ?_
 refine AW.cond rfl (fun h2t => ?_) (fun h2f => ?_)
 ·
  try replace h2t := odt h2t
  refine rs (ym ?_)
  refine ym ?_
  refine C1 rfl ce_102 (E rfl rfl) (evsC (E rfl rfl) (evsC (E rfl rfl) evs0)) (S1 := [Ent.box b 155 (rdCells bs (nextF bs r).2)]) (S2 := _) rfl (real67 b bs (nextF bs r).2 hb hok1 (nextF bs r).1) ?_
  rintro t35 S35 ⟨rfl, E35, rfl⟩
  refine AWL.tuck ?_
  refine AWL.storeBox (i := 1) rfl rfl rfl ag_57 rfl (E rfl rfl) (E rfl rfl) rfl rfl nB (nl ?_)
  refine AW.ret (retI (.cellA (i := 1) rfl ag_57 rfl rfl rfl .nil) ?_)
  rw [insR, if_neg (ne_true_of_eq_false h0f), insIn, if_neg h1f, if_pos h2t]
  exact ⟨rfl, _, rfl⟩
 try replace h2f := odf h2f
 refine rs (ym ?_)
 refine Y1 (Yv.bits rfl rfl eV eV) ?_
 refine Y1 (Yv.eql rfl eV eV) ?_
 refine ya ?_
 refine AW.cond rfl (fun h3t => ?_) (fun h3f => ?_)
 ·
  try replace h3t := odt h3t
  refine rs (ym ?_)
  refine Y1 (Yv.andN_i64 4 16 (by decide) (by decide) (by decide) rfl (E rfl rfl) (E rfl rfl) (fun hg => ⟨by omega, by omega⟩)) ?_
  refine ym ?_
  refine C1 rfl ce_103 (E rfl rfl) (evsC (E rfl rfl) (evsC (E rfl rfl) evs0)) (S1 := [Ent.box b 155 (rdCells bs (nextF bs r).2)]) (S2 := _) rfl (imm68 b bs (nextF bs r).2 hb hok1 1 (.inl rfl)) ?_
  rintro t43 S43 ⟨rfl, rfl⟩
  refine Y1 (Yv.buildS rfl sh_57 (evpC eV (evpC eV (evpC eV (evpC eV evp0)))) (fun _ => rfl)) ?_
  refine AWL.storeBox (i := 1) rfl rfl rfl ag_57 rfl (E rfl rfl) (E rfl rfl) rfl rfl nB (nl ?_)
  refine AW.ret (retI (.cellA (i := 1) rfl ag_57 rfl rfl rfl .nil) ?_)
  rw [insR, if_neg (ne_true_of_eq_false h0f), insIn, if_neg h1f, if_neg (ne_true_of_eq_false h2f), if_pos h3t]
  exact ⟨rfl, _, rfl⟩
 try replace h3f := odf h3f
 refine AW.skip ?_
 refine AW.seq ?_
 refine rs (ym (nl ?_))
 refine AW.block ?_
 refine rs (Y1 (Yv.eql rfl eV eV) ?_)
 refine ya ?_
 refine AW.cond rfl (fun h4t => ?_) (fun h4f => ?_)
 ·
  try replace h4t := odt h4t
  refine rs (ym ?_)
  refine C1 rfl ce_103 (E rfl rfl) (evsC (E rfl rfl) (evsC (E rfl rfl) evs0)) (S1 := [Ent.box b 155 (rdCells bs (nextF bs r).2)]) (S2 := _) rfl (imm68 b bs (nextF bs r).2 hb hok1 1 (.inl rfl)) ?_
  rintro t49 S49 ⟨rfl, rfl⟩
  refine Y1 (Yv.buildS rfl sh_57 (evpC eV (evpC eV (evpC eV evp0))) (fun _ => rfl)) ?_
  refine AWL.storeBox (i := 1) rfl rfl rfl ag_57 rfl (E rfl rfl) (E rfl rfl) rfl rfl nB (nl ?_)
  refine AW.ret (retI (.cellA (i := 1) rfl ag_57 rfl rfl rfl .nil) ?_)
  rw [insR, if_neg (ne_true_of_eq_false h0f), insIn, if_neg h1f, if_neg (ne_true_of_eq_false h2f), if_neg h3f, if_pos h4t]
  exact ⟨rfl, _, rfl⟩
 try replace h4f := odf h4f
 refine rs (Y1 (Yv.eql rfl eV eV) ?_)
 refine ya ?_
 refine AW.cond rfl (fun h5t => ?_) (fun h5f => ?_)
 ·
  try replace h5t := odt h5t
  refine rs (ym ?_)
  refine C1 rfl ce_103 (E rfl rfl) (evsC (E rfl rfl) (evsC (E rfl rfl) evs0)) (S1 := [Ent.box b 155 (rdCells bs (nextF bs r).2)]) (S2 := _) rfl (imm68 b bs (nextF bs r).2 hb hok1 4 (.inr (.inl rfl))) ?_
  rintro t54 S54 ⟨rfl, rfl⟩
  refine Y1 (Yv.buildS rfl sh_57 (evpC eV (evpC eV (evpC eV evp0))) (fun _ => rfl)) ?_
  refine AWL.storeBox (i := 1) rfl rfl rfl ag_57 rfl (E rfl rfl) (E rfl rfl) rfl rfl nB (nl ?_)
  refine AW.ret (retI (.cellA (i := 1) rfl ag_57 rfl rfl rfl .nil) ?_)
  rw [insR, if_neg (ne_true_of_eq_false h0f), insIn, if_neg h1f, if_neg (ne_true_of_eq_false h2f), if_neg h3f, if_neg h4f, if_pos h5t]
  exact ⟨rfl, _, rfl⟩
 try replace h5f := odf h5f
 refine rs (Y1 (Yv.eql rfl eV eV) ?_)
 refine ya ?_
 refine AW.cond rfl (fun h6t => ?_) (fun h6f => ?_)
 ·
  try replace h6t := odt h6t
  refine rs (ym ?_)
  refine C1 rfl ce_103 (E rfl rfl) (evsC (E rfl rfl) (evsC (E rfl rfl) evs0)) (S1 := [Ent.box b 155 (rdCells bs (nextF bs r).2)]) (S2 := _) rfl (imm68 b bs (nextF bs r).2 hb hok1 4 (.inr (.inl rfl))) ?_
  rintro t59 S59 ⟨rfl, rfl⟩
  refine Y1 (Yv.buildS rfl sh_57 (evpC eV (evpC eV evp0)) (fun _ => rfl)) ?_
  refine AWL.storeBox (i := 1) rfl rfl rfl ag_57 rfl (E rfl rfl) (E rfl rfl) rfl rfl nB (nl ?_)
  refine AW.ret (retI (.cellA (i := 1) rfl ag_57 rfl rfl rfl .nil) ?_)
  rw [insR, if_neg (ne_true_of_eq_false h0f), insIn, if_neg h1f, if_neg (ne_true_of_eq_false h2f), if_neg h3f, if_neg h4f, if_neg h5f, if_pos h6t]
  exact ⟨rfl, _, rfl⟩
 try replace h6f := odf h6f
 refine rs (Y1 (Yv.eql rfl eV eV) ?_)
 refine ya ?_
 refine AW.cond rfl (fun h7t => ?_) (fun h7f => ?_)
 ·
  try replace h7t := odt h7t
  refine rs (Y1 (Yv.buildS rfl sh_57 (evpC eV evp0) (fun _ => rfl)) ?_)
  refine AWL.storeBox (i := 1) rfl rfl rfl ag_57 rfl (E rfl rfl) (E rfl rfl) rfl rfl nB (nl ?_)
  refine AW.ret (retI (.cellA (i := 1) rfl ag_57 rfl rfl rfl .nil) ?_)
  rw [insR, if_neg (ne_true_of_eq_false h0f), insIn, if_neg h1f, if_neg (ne_true_of_eq_false h2f), if_neg h3f, if_neg h4f, if_neg h5f, if_neg h6f, if_pos h7t]
  exact ⟨rfl, _, rfl⟩
 try replace h7f := odf h7f
 refine rs (Y1 (Yv.eql rfl eV eV) ?_)
 refine ya ?_
 refine AW.cond rfl (fun h8t => ?_) (fun h8f => ?_)
 ·
  try replace h8t := odt h8t
  refine rs (ym ?_)
  refine C1 rfl ce_98 (E rfl rfl) (evsC (E rfl rfl) evs0) (S1 := [Ent.box b 155 (rdCells bs (nextF bs r).2)]) (S2 := _) rfl (next63 b bs (nextF bs r).2 hb hok1) ?_
  rintro t67 S67 ⟨rfl, rfl⟩
  refine ya ?_
  refine AW.block ?_
  refine rs (ym ?_)
  refine Y1 (Yv.eql rfl eV eV) ?_
  refine ya ?_
  refine AW.cond rfl (fun h9t => ?_) (fun h9f => ?_)
  ·
   try replace h9t := odt h9t
   refine rs (Y1 (Yv.buildS rfl sh_57 (evpC eV evp0) (fun _ => rfl)) ?_)
   refine AWL.storeBox (i := 1) rfl rfl rfl ag_57 rfl (E rfl rfl) (E rfl rfl) rfl rfl nB (nl ?_)
   refine AW.ret (retI (.cellA (i := 1) rfl ag_57 rfl rfl rfl .nil) ?_)
   rw [insR, if_neg (ne_true_of_eq_false h0f), insIn, if_neg h1f, if_neg (ne_true_of_eq_false h2f), if_neg h3f, if_neg h4f, if_neg h5f, if_neg h6f, if_neg h7f, if_pos h8t, insTwo, if_pos h9t]
   exact ⟨rfl, _, rfl⟩
  try replace h9f := odf h9f
  refine rs (ym ?_)
  refine Y1 (Yv.eql rfl eV eV) ?_
  refine ya ?_
  refine AW.cond rfl (fun h10t => ?_) (fun h10f => ?_)
  ·
   try replace h10t := odt h10t
   refine rs (Y1 (Yv.buildS rfl sh_57 (evpC eV evp0) (fun _ => rfl)) ?_)
   refine AWL.storeBox (i := 1) rfl rfl rfl ag_57 rfl (E rfl rfl) (E rfl rfl) rfl rfl nB (nl ?_)
   refine AW.ret (retI (.cellA (i := 1) rfl ag_57 rfl rfl rfl .nil) ?_)
   rw [insR, if_neg (ne_true_of_eq_false h0f), insIn, if_neg h1f, if_neg (ne_true_of_eq_false h2f), if_neg h3f, if_neg h4f, if_neg h5f, if_neg h6f, if_neg h7f, if_pos h8t, insTwo, if_neg h9f, if_pos h10t]
   exact ⟨rfl, _, rfl⟩
  try replace h10f := odf h10f
  refine rs (ym ?_)
  refine Y1 (Yv.bits rfl rfl eV eV) ?_
  refine Y1 (Yv.eql rfl eV eV) ?_
  refine ya ?_
  refine AW.cond rfl (fun h11t => ?_) (fun h11f => ?_)
  ·
   try replace h11t := odt h11t
   refine rs (ym ?_)
   refine Y1 (Yv.andN_i64 4 16 (by decide) (by decide) (by decide) rfl (E rfl rfl) (E rfl rfl) (fun hg => ⟨by omega, by omega⟩)) ?_
   refine ym ?_
   refine C1 rfl ce_103 (E rfl rfl) (evsC (E rfl rfl) (evsC (E rfl rfl) evs0)) (S1 := [Ent.box b 155 (rdCells bs (nextF bs (nextF bs r).2).2)]) (S2 := _) rfl (imm68 b bs (nextF bs (nextF bs r).2).2 hb hok2 4 (.inr (.inl rfl))) ?_
   rintro t83 S83 ⟨rfl, rfl⟩
   refine Y1 (Yv.buildS rfl sh_57 (evpC eV (evpC eV (evpC eV (evpC eV evp0)))) (fun _ => rfl)) ?_
   refine AWL.storeBox (i := 1) rfl rfl rfl ag_57 rfl (E rfl rfl) (E rfl rfl) rfl rfl nB (nl ?_)
   refine AW.ret (retI (.cellA (i := 1) rfl ag_57 rfl rfl rfl .nil) ?_)
   rw [insR, if_neg (ne_true_of_eq_false h0f), insIn, if_neg h1f, if_neg (ne_true_of_eq_false h2f), if_neg h3f, if_neg h4f, if_neg h5f, if_neg h6f, if_neg h7f, if_pos h8t, insTwo, if_neg h9f, if_neg h10f, if_pos h11t]
   exact ⟨rfl, _, rfl⟩
  try replace h11f := odf h11f
  refine AW.skip ?_
  refine rs (ym ?_)
  refine C1 rfl ce_99 (E rfl rfl) (evsC (E rfl rfl) (evsC (E rfl rfl) evs0)) (S1 := [Ent.box b 155 (rdCells bs (nextF bs (nextF bs r).2).2)]) (S2 := _) rfl (must64 b bs (nextF bs (nextF bs r).2).2 false) ?_
  rintro t86 S86 rfl
  refine nl ?_
  refine rs (Y1 (Yv.buildS rfl sh_57 evp0 (fun _ => rfl)) ?_)
  refine AWL.storeBox (i := 1) rfl rfl rfl ag_57 rfl (E rfl rfl) (E rfl rfl) rfl rfl nB (nl ?_)
  refine AW.ret (retI (.cellA (i := 1) rfl ag_57 rfl rfl rfl .nil) ?_)
  rw [insR, if_neg (ne_true_of_eq_false h0f), insIn, if_neg h1f, if_neg (ne_true_of_eq_false h2f), if_neg h3f, if_neg h4f, if_neg h5f, if_neg h6f, if_neg h7f, if_pos h8t, insTwo, if_neg h9f, if_neg h10f, if_neg h11f]
  exact ⟨rfl, _, rfl⟩
 try replace h8f := odf h8f
 refine AW.skip ?_
 refine rs (ym ?_)
 refine C1 rfl ce_99 (E rfl rfl) (evsC (E rfl rfl) (evsC (E rfl rfl) evs0)) (S1 := [Ent.box b 155 (rdCells bs (nextF bs r).2)]) (S2 := _) rfl (must64 b bs (nextF bs r).2 false) ?_
 rintro t86 S86 rfl
 refine nl ?_
 refine rs (Y1 (Yv.buildS rfl sh_57 evp0 (fun _ => rfl)) ?_)
 refine AWL.storeBox (i := 1) rfl rfl rfl ag_57 rfl (E rfl rfl) (E rfl rfl) rfl rfl nB (nl ?_)
 refine AW.ret (retI (.cellA (i := 1) rfl ag_57 rfl rfl rfl .nil) ?_)
 rw [insR, if_neg (ne_true_of_eq_false h0f), insIn, if_neg h1f, if_neg (ne_true_of_eq_false h2f), if_neg h3f, if_neg h4f, if_neg h5f, if_neg h6f, if_neg h7f, if_neg h8f]
 exact ⟨rfl, _, rfl⟩

set_option maxHeartbeats 2000000 in
theorem Decode42 (bs : List UInt8) (hb : bs.length ≤ 1099511627776) :
    ACalls Tryz.prog 52 [u8s bs] [] (fun t_ S => t_ = .tup [insT (decI bs), .v (.int .i64 (decN bs : Int)), .v (.int .i64 (decE bs))]) := by
 refine ACalls.intro Tryz.func52 rfl Tryz.ntmps52 nB rfl fun X w0 => ?_
 refine rs ?_
 refine AWL.allocOp rfl rfl (B rfl) rfl zc_57 (fun b2 => ?_)
 refine Y1 (Yv.assign rfl eV) ?_
 refine ya ?_
 refine rs (ym ?_)
 refine Y1 (Yv.buildS rfl sh_155 (evpC eV evp0) (fun _ => rfl)) ?_
 refine AWL.boxOp rfl rfl (B rfl) rfl (E rfl rfl) rfl (fun b9 => ?_)
 refine ya ?_
 refine AW.perm (S' := [.box b9 155 (rdCells bs rd0), .box b2 57 (insCells nilI)]) (List.Perm.swap _ _ []) ?_
 refine rs (ym ?_)
 refine C1 rfl ce_76 (E rfl rfl) (evsC (E rfl rfl) evs0) (S1 := [Ent.box b9 155 (rdCells bs rd0)]) (S2 := _) rfl (instruction54 b9 bs rd0 hb (Nat.zero_le _)) ?_
 rintro t11 S11 ⟨rfl, E11, rfl⟩
 refine AWL.tuck ?_
 refine AWL.allocOp rfl rfl (B rfl) rfl zc_57 (fun b6 => ?_)
 refine AWL.perm (S' := [Ent.box b9 155 (rdCells bs (insR bs rd0).2), .box b2 57 (insCells nilI), .box b6 57 (insCells nilI)] ++ E11) (List.Perm.append_left [_, _] (List.perm_append_comm (l₁ := [_]) (l₂ := E11))) ?_
 refine AWL.storeBox (i := 2) rfl rfl rfl ag_57 rfl (E rfl rfl) (E rfl rfl) rfl rfl nB (nl ?_)
 refine AW.seq ?_
 refine AW.block ?_
 refine rs (ym ?_)
 refine Y1 (Yv.nilChk rfl eV) ?_
 refine yf fo_155_3 ?_
 refine yl ag_4 0 ?_
 refine ya ?_
 refine AW.cond rfl (fun h0t => ?_) (fun h0f => ?_)
 ·
  try replace h0t := odt h0t
  refine rs (Y1 (Yv.buildS rfl sh_57 evp0 (fun _ => rfl)) ?_)
  refine AWL.storeBox (i := 1) rfl rfl rfl ag_57 rfl (E rfl rfl) (E rfl rfl) rfl rfl nB ?_
  refine Y1 (Yv.assign rfl eV) ?_
  refine ya ?_
  refine AW.ret (retI (.cellA (i := 1) rfl ag_57 rfl rfl rfl (.tmp rfl (.tmp rfl .nil))) ?_)
  rw [decI, if_pos (.inl h0t), decN, if_pos (.inl h0t), decE, if_pos h0t]
  rfl
 try replace h0f := odf h0f
 refine rs (ym ?_)
 refine Y1 (Yv.nilChk rfl eV) ?_
 refine yf fo_155_2 ?_
 refine yl ag_4 0 ?_
 refine ya ?_
 refine AW.cond rfl (fun h1t => ?_) (fun h1f => ?_)
 ·
  try replace h1t := odt h1t
  refine rs (Y1 (Yv.buildS rfl sh_57 evp0 (fun _ => rfl)) ?_)
  refine AWL.storeBox (i := 1) rfl rfl rfl ag_57 rfl (E rfl rfl) (E rfl rfl) rfl rfl nB ?_
  refine Y1 (Yv.assign rfl eV) ?_
  refine ya ?_
  refine AW.ret (retI (.cellA (i := 1) rfl ag_57 rfl rfl rfl (.tmp rfl (.tmp rfl .nil))) ?_)
  rw [decI, if_pos (.inr h1t), decN, if_pos (.inr h1t), decE, if_neg (ne_true_of_eq_false h0f), if_pos h1t]
  rfl
 try replace h1f := odf h1f
 refine AW.skip ?_
 refine AW.rseqH (HeldBox b6 (insVals (insR bs rd0).1)) rfl (tells_box (k := 2) rfl) ?_
 refine AWH.tk (i := 0) rfl rfl rfl (B rfl) (heldLoadA rfl ag_57 (E rfl rfl) rfl rfl rfl rfl) ?_
 refine AWH.tk (i := 1) rfl rfl rfl (B rfl) (heldAll (freeMove rfl (E rfl rfl))) ?_
 refine AWH.tk (i := 2) rfl rfl rfl (B rfl) (heldAll (freeNil rfl (E rfl rfl))) ?_
 refine AWH.tk (i := 3) rfl rfl rfl (B rfl) (heldAll (freeField rfl fo_155_1 (E rfl rfl))) ?_
 refine AWH.two (i := 4) (j := 5) (by kernel_rfl) rfl rfl ?_ ?_
 ·
  refine yl ag_3 0 ?_
  refine tb 2 rfl ?_
  refine AWH.one (i := 5) (by kernel_rfl) rfl ?_
  refine AWL.storeBox (i := 1) rfl rfl rfl ag_57 rfl (E rfl rfl) (E rfl rfl) rfl rfl nB ?_
  refine tb 2 rfl ?_
  refine AWH.one (i := 6) (by kernel_rfl) rfl ?_
  refine Y1 (Yv.assign rfl eV) ?_
  refine tb 2 rfl ?_
  refine AWH.one (i := 7) (by kernel_rfl) rfl ?_
  refine Y1 (Yv.assign rfl eV) ?_
  refine tb 2 rfl ?_
  refine AWH.done (by kernel_rfl) ?_
  refine AW.ret (retI (.cellA (i := 1) rfl ag_57 rfl rfl rfl (.tmp rfl (.tmp rfl .nil))) ?_)
  have hno : ¬ ((insR bs rd0).2.wrong = true ∨ (insR bs rd0).2.cut = true) := by rw [h0f, h1f]; simp
  rw [decI, if_neg hno, decN, if_neg hno, decE, if_neg (ne_true_of_eq_false h0f), if_neg (ne_true_of_eq_false h1f)]
  rfl
 ·
  refine AWL.storeBox (i := 1) rfl rfl rfl ag_57 rfl (E rfl rfl) (E rfl rfl) rfl rfl nB ?_
  refine tb 2 rfl ?_
  refine AWH.one (i := 4) (by kernel_rfl) rfl ?_
  refine yl ag_3 0 ?_
  refine tb 2 rfl ?_
  refine AWH.one (i := 6) (by kernel_rfl) rfl ?_
  refine Y1 (Yv.assign rfl eV) ?_
  refine tb 2 rfl ?_
  refine AWH.one (i := 7) (by kernel_rfl) rfl ?_
  refine Y1 (Yv.assign rfl eV) ?_
  refine tb 2 rfl ?_
  refine AWH.done (by kernel_rfl) ?_
  refine AW.ret (retI (.cellA (i := 1) rfl ag_57 rfl rfl rfl (.tmp rfl (.tmp rfl .nil))) ?_)
  have hno : ¬ ((insR bs rd0).2.wrong = true ∨ (insR bs rd0).2.cut = true) := by rw [h0f, h1f]; simp
  rw [decI, if_neg hno, decN, if_neg hno, decE, if_neg (ne_true_of_eq_false h0f), if_neg (ne_true_of_eq_false h1f)]
  rfl

end Go.Proofs.YtecpjlhbkmongaaGreat

namespace Go.Proofs.YtecpjlhbkmongaaGreat
open Go Go.RowKit
theorem len_flat {α : Type} {f : α → List T} {k : Nat} (hk : ∀ a, (f a).length = k) : ∀ (l : List α), (l.flatMap f).length = l.length * k
 | [] => by simp
 | a :: r => by rw [List.flatMap_cons, List.length_append, hk, len_flat hk r, List.length_cons, Nat.add_mul]; omega
theorem drop_flat {α : Type} {f : α → List T} {k : Nat} (hk : ∀ a, (f a).length = k) : ∀ (l : List α) (j : Nat), (l.flatMap f).drop (j * k) = (l.drop j).flatMap f
 | [], j => by simp
 | a :: r, 0 => by simp
 | a :: r, j + 1 => by
  rw [List.flatMap_cons, Nat.add_mul, Nat.one_mul, Nat.add_comm, List.drop_append, List.drop_of_length_le (by rw [hk]; omega), hk, List.nil_append, Nat.add_sub_cancel_left, drop_flat hk r j]
  rfl
theorem getD_eq' {α : Type} [Inhabited α] {l : List α} {j : Nat} (h : j < l.length) : l.getD j default = l[j] := by simp [h]
theorem getD_mem' {α : Type} [Inhabited α] {l : List α} {j : Nat} (h : j < l.length) : l.getD j default ∈ l := by
 rw [getD_eq' h]; exact List.getElem_mem h
theorem flat_get {α : Type} [Inhabited α] {f : α → List T} {k : Nat} (hk : ∀ a, (f a).length = k) {l : List α} {j : Nat} (h : j < l.length) : ((l.flatMap f).drop (j * k)).take k = f (l.getD j default) ∧ (f (l.getD j default)).length = k := by
 refine ⟨?_, hk _⟩
 rw [drop_flat hk, List.drop_eq_getElem_cons h, List.flatMap_cons, getD_eq' h, List.take_left' (hk _)]
theorem ik (i : Ins) : (insCells i).length = 6 := rfl
theorem len_inss {l : List Ins} : (l.flatMap insCells).length = l.length * 6 := len_flat ik l
end Go.Proofs.YtecpjlhbkmongaaGreat

namespace Go.Proofs.YtecpjlhbkmongaaGreat
open Go Go.RowKit
structure FormF where
 kind : Int
 size : Int
 first : Int
 rex : Bool
 w : Int
 op : List Int
 mod : Int
 digit : Int
 d : Int
 s : Int
 cond : Int
 imm : Int
 deriving Inhabited, DecidableEq
def formCells (f : FormF) : List T := [.v (.int .i64 f.kind), .v (.int .i64 f.size), .v (.int .i64 f.first), .v (.bool f.rex), .v (.int .i64 f.w), .sl 1 (ints f.op), .v (.int .i64 f.mod), .v (.int .i64 f.digit), .v (.int .i64 f.d), .v (.int .i64 f.s), .v (.int .i64 f.cond), .v (.int .i64 f.imm)]
def formT (f : FormF) : T := .agg (formCells f)
def formsF : List FormF := [⟨1, 0, 0, true, 1, [137], 3, 0, 2, 1, 0, 0⟩,
 ⟨2, 0, 0, true, 1, [199], 3, 0, 2, 0, 0, 6⟩,
 ⟨2, 0, 0, true, 1, [184], -1, 0, 3, 0, 0, 7⟩,
 ⟨3, 8, 0, true, 1, [139], 2, 0, 1, 2, 0, 6⟩,
 ⟨3, 4, 0, true, 0, [139], 2, 0, 1, 2, 0, 6⟩,
 ⟨3, 1, 0, true, 1, [15, 182], 2, 0, 1, 2, 0, 6⟩,
 ⟨4, 8, 0, true, 1, [137], 2, 0, 2, 1, 0, 6⟩,
 ⟨4, 4, 0, true, 0, [137], 2, 0, 2, 1, 0, 6⟩,
 ⟨4, 1, 0, true, 0, [136], 2, 0, 2, 1, 0, 6⟩,
 ⟨5, 0, 0, true, 1, [141], 2, 0, 1, 2, 0, 6⟩,
 ⟨6, 0, 0, true, 1, [1], 3, 0, 2, 1, 0, 0⟩,
 ⟨7, 0, 0, true, 1, [9], 3, 0, 2, 1, 0, 0⟩,
 ⟨8, 0, 0, true, 1, [17], 3, 0, 2, 1, 0, 0⟩,
 ⟨9, 0, 0, true, 1, [25], 3, 0, 2, 1, 0, 0⟩,
 ⟨10, 0, 0, true, 1, [33], 3, 0, 2, 1, 0, 0⟩,
 ⟨11, 0, 0, true, 1, [41], 3, 0, 2, 1, 0, 0⟩,
 ⟨12, 0, 0, true, 1, [49], 3, 0, 2, 1, 0, 0⟩,
 ⟨13, 0, 0, true, 1, [57], 3, 0, 2, 1, 0, 0⟩,
 ⟨14, 0, 0, true, 1, [133], 3, 0, 2, 1, 0, 0⟩,
 ⟨15, 0, 0, true, 1, [129], 3, 0, 2, 0, 0, 6⟩,
 ⟨16, 0, 0, true, 1, [129], 3, 1, 2, 0, 0, 6⟩,
 ⟨17, 0, 0, true, 1, [129], 3, 4, 2, 0, 0, 6⟩,
 ⟨18, 0, 0, true, 1, [129], 3, 5, 2, 0, 0, 6⟩,
 ⟨19, 0, 0, true, 1, [129], 3, 6, 2, 0, 0, 6⟩,
 ⟨20, 0, 0, true, 1, [129], 3, 7, 2, 0, 0, 6⟩,
 ⟨21, 0, 0, true, 1, [15, 175], 3, 0, 1, 2, 0, 0⟩,
 ⟨22, 0, 0, true, 1, [247], 3, 4, 2, 0, 0, 0⟩,
 ⟨23, 0, 0, true, 1, [247], 3, 6, 2, 0, 0, 0⟩,
 ⟨24, 0, 0, true, 1, [247], 3, 3, 2, 0, 0, 0⟩,
 ⟨25, 0, 0, true, 1, [247], 3, 2, 2, 0, 0, 0⟩,
 ⟨26, 0, 0, true, 1, [211], 3, 4, 2, 0, 0, 0⟩,
 ⟨27, 0, 0, true, 1, [211], 3, 5, 2, 0, 0, 0⟩,
 ⟨28, 0, 0, true, 1, [211], 3, 7, 2, 0, 0, 0⟩,
 ⟨29, 0, 0, true, 1, [193], 3, 4, 2, 0, 0, 5⟩,
 ⟨30, 0, 0, true, 1, [193], 3, 5, 2, 0, 0, 5⟩,
 ⟨31, 0, 0, true, 1, [193], 3, 7, 2, 0, 0, 5⟩,
 ⟨32, 0, 0, true, 0, [15, 144], 3, 0, 2, 0, 4, 0⟩,
 ⟨33, 0, 0, true, 1, [15, 182], 3, 0, 1, 2, 0, 0⟩,
 ⟨34, 0, 0, true, 1, [15, 64], 3, 0, 1, 2, 4, 0⟩,
 ⟨35, 1, 0, false, 0, [235], -1, 0, 0, 0, 0, 5⟩,
 ⟨35, 4, 0, false, 0, [233], -1, 0, 0, 0, 0, 6⟩,
 ⟨36, 1, 0, false, 0, [112], -1, 0, 0, 0, 4, 5⟩,
 ⟨36, 4, 0, false, 0, [15, 128], -1, 0, 0, 0, 4, 6⟩,
 ⟨37, 0, 0, false, 0, [232], -1, 0, 0, 0, 0, 6⟩,
 ⟨38, 0, 0, true, 0, [255], 3, 2, 2, 0, 0, 0⟩,
 ⟨39, 0, 0, true, 0, [255], 3, 4, 2, 0, 0, 0⟩,
 ⟨40, 0, 0, false, 0, [195], -1, 0, 0, 0, 0, 0⟩,
 ⟨41, 0, 0, true, 0, [80], -1, 0, 3, 0, 0, 0⟩,
 ⟨42, 0, 0, true, 0, [88], -1, 0, 3, 0, 0, 0⟩,
 ⟨43, 0, 0, false, 0, [15, 5], -1, 0, 0, 0, 0, 0⟩,
 ⟨44, 0, 0, false, 0, [15, 11], -1, 0, 0, 0, 0, 0⟩,
 ⟨45, 0, 102, true, 1, [15, 110], 3, 0, 1, 2, 0, 0⟩,
 ⟨46, 0, 102, true, 1, [15, 126], 3, 0, 2, 1, 0, 0⟩,
 ⟨47, 0, 242, true, 0, [15, 88], 3, 0, 1, 2, 0, 0⟩,
 ⟨48, 0, 242, true, 0, [15, 89], 3, 0, 1, 2, 0, 0⟩,
 ⟨49, 0, 242, true, 0, [15, 92], 3, 0, 1, 2, 0, 0⟩,
 ⟨50, 0, 242, true, 0, [15, 94], 3, 0, 1, 2, 0, 0⟩,
 ⟨51, 0, 102, true, 0, [15, 46], 3, 0, 1, 2, 0, 0⟩,
 ⟨52, 0, 242, true, 1, [15, 42], 3, 0, 1, 2, 0, 0⟩]
def fieldR (p n : Int) : Bool := (decide (p = 0) && decide (n = 0)) || ((!decide (p = 0) && decide (0 ≤ n)) && decide (n ≤ 15))
def numberR (f : FormF) (n : Int) : Bool :=
 if f.imm = 0 then decide (n = 0)
 else if f.imm = 5 then (if (decide (f.kind = 35) || decide (f.kind = 36)) = true then inF n (-128) 127 else inF n 0 63)
 else if f.imm = 6 then smallF n else !smallF n
def fitsF (f : FormF) (i : Ins) : Bool := ((((decide (f.kind = i.kind) && decide (f.size = i.size)) && fieldR f.d i.d) && fieldR f.s i.s) && fieldR f.cond i.cond) && numberR f i.imm
def atF (f : FormF) (i : Ins) (p : Int) : Int := if f.d = p then i.d else if f.s = p then i.s else 0
def upF (f : FormF) (i : Ins) : Int := atF f i 1
def baseF (f : FormF) (i : Ins) : Int := atF f i 2 + atF f i 3
def opX (f : FormF) (i : Ins) (k : Nat) : Int := f.op.getD k 0 + (if (decide ((k : Int) = (f.op.length : Int) - 1) && decide (f.cond = 4)) = true then i.cond else 0)
def opY (f : FormF) (i : Ins) (k : Nat) : Int := opX f i k + (if (decide ((k : Int) = (f.op.length : Int) - 1) && decide (f.d = 3)) = true then i.d % 8 else 0)
def r0 (f : FormF) : List UInt8 := if 0 < f.first then [byteOf f.first] else []
def r1 (f : FormF) (i : Ins) : List UInt8 := r0 f ++ (if f.rex = true then [byteOf (64 + 8 * f.w + 4 * (upF f i / 8) + baseF f i / 8)] else [])
def r2 (f : FormF) (i : Ins) (j : Nat) : List UInt8 := r1 f i ++ (List.range j).map (fun k => byteOf (opY f i k))
def regX (f : FormF) (i : Ins) : Int := if (!decide (f.d = 1) && !decide (f.s = 1)) = true then f.digit else upF f i % 8
def modB (f : FormF) (i : Ins) : List UInt8 := byteOf (64 * f.mod + 8 * regX f i + baseF f i % 8) :: (if (decide (f.mod = 2) && decide (baseF f i % 8 = 4)) = true then [36] else [])
def r3 (f : FormF) (i : Ins) : List UInt8 := r2 f i f.op.length ++ (if 0 ≤ f.mod then modB f i else [])
def sizeR (k : Int) : Nat := if k = 5 then 1 else if k = 6 then 4 else if k = 7 then 8 else 0
def r4 (f : FormF) (i : Ins) (j : Nat) : List UInt8 := r3 f i ++ leBytes j (i.imm % 18446744073709551616)
def bytesF (f : FormF) (i : Ins) : List UInt8 := r4 f i (sizeR f.imm)
structure FormOk (f : FormF) : Prop where
 w : 0 ≤ f.w ∧ f.w ≤ 1
 first : 0 ≤ f.first ∧ f.first ≤ 255
 op : ∀ x ∈ f.op, 0 ≤ x ∧ x ≤ 255
 len : f.op.length ≤ 2
 mod : -1 ≤ f.mod ∧ f.mod ≤ 3
 digit : 0 ≤ f.digit ∧ f.digit ≤ 7
theorem forms_ok : ∀ f ∈ formsF, FormOk f := by
 have h : formsF.all (fun f => decide (0 ≤ f.w ∧ f.w ≤ 1) && decide (0 ≤ f.first ∧ f.first ≤ 255) && f.op.all (fun x => decide (0 ≤ x ∧ x ≤ 255)) && decide (f.op.length ≤ 2) && decide (-1 ≤ f.mod ∧ f.mod ≤ 3) && decide (0 ≤ f.digit ∧ f.digit ≤ 7)) = true := by decide
 intro f hf
 have := List.all_eq_true.1 h f hf
 simp only [Bool.and_eq_true, decide_eq_true_eq, List.all_eq_true] at this
 obtain ⟨⟨⟨⟨⟨a, b⟩, c⟩, d⟩, e⟩, g⟩ := this
 exact ⟨a, b, c, d, e, g⟩
theorem field_range {p n : Int} (h : fieldR p n = true) : 0 ≤ n ∧ n ≤ 15 := by
 unfold fieldR at h
 simp only [Bool.or_eq_true, Bool.and_eq_true, Bool.not_eq_true', decide_eq_true_eq, decide_eq_false_iff_not] at h
 omega
theorem fits_range {f : FormF} {i : Ins} (h : fitsF f i = true) : (0 ≤ i.d ∧ i.d ≤ 15) ∧ (0 ≤ i.s ∧ i.s ≤ 15) ∧ (0 ≤ i.cond ∧ i.cond ≤ 15) := by
 unfold fitsF at h
 simp only [Bool.and_eq_true] at h
 exact ⟨field_range h.1.1.1.2, field_range h.1.1.2, field_range h.1.2⟩
theorem at_range {f : FormF} {i : Ins} (hd : 0 ≤ i.d ∧ i.d ≤ 15) (hs : 0 ≤ i.s ∧ i.s ≤ 15) (p : Int) : 0 ≤ atF f i p ∧ atF f i p ≤ 15 := by
 unfold atF
 split
 ·exact hd
 split
 ·exact hs
 omega
theorem opX_range {f : FormF} {i : Ins} (hf : FormOk f) (hc : 0 ≤ i.cond ∧ i.cond ≤ 15) {k : Nat} (hk : k < f.op.length) : 0 ≤ f.op.getD k 0 ∧ f.op.getD k 0 ≤ 255 ∧ 0 ≤ opX f i k ∧ opX f i k ≤ 270 := by
 have := hf.op (f.op.getD k 0) (by simp [hk])
 unfold opX
 split <;> omega
theorem r2_step (f : FormF) (i : Ins) (j : Nat) : (r2 f i (j + 1)).map u8 = (r2 f i j).map u8 ++ [u8 (byteOf (opY f i j))] ∧ (r2 f i (j + 1)).length = (r2 f i j).length + 1 := by
 simp [r2, List.range_succ, Nat.add_assoc]
theorem r4_step (f : FormF) (i : Ins) (j : Nat) : (r4 f i (j + 1)).map u8 = (r4 f i j).map u8 ++ [u8 (byteOf (i.imm % 18446744073709551616 / 256 ^ j))] ∧ (r4 f i (j + 1)).length = (r4 f i j).length + 1 := by
 constructor
 ·rw [r4, leBytes_succ, ← List.append_assoc, List.map_append, ← r4]
  rfl
 simp [r4, leBytes_length, Nat.add_assoc]
theorem u8w (p : Int) : [u8 (byteOf p)] = [T.v (.int .u8 (IntKind.u8.wrap p))] := by rw [byteOf_wrap]
theorem r0_yes {f : FormF} (h : 0 < f.first) : (r0 f).length = 0 + 1 ∧ (r0 f).map u8 = [] ++ [T.v (.int .u8 (IntKind.u8.wrap f.first))] := by
 rw [r0, if_pos h]
 exact ⟨rfl, u8w _⟩
theorem r0_no {f : FormF} (h : ¬ 0 < f.first) : r0 f = [] := by rw [r0, if_neg h]
theorem r1_yes {f : FormF} {i : Ins} (h : f.rex = true) : (r1 f i).length = (r0 f).length + 1 ∧ (r1 f i).map u8 = (r0 f).map u8 ++ [T.v (.int .u8 (IntKind.u8.wrap (64 + 8 * f.w + 4 * (upF f i / 8) + baseF f i / 8)))] := by
 rw [r1, if_pos h, List.length_append, List.map_append]
 refine ⟨rfl, ?_⟩
 rw [← u8w]
 rfl
theorem r1_no {f : FormF} {i : Ins} (h : ¬ f.rex = true) : r1 f i = r0 f := by rw [r1, if_neg h, List.append_nil]
theorem r2_next (f : FormF) (i : Ins) (j : Nat) : (r2 f i (j + 1)).length = (r2 f i j).length + 1 ∧ (r2 f i (j + 1)).map u8 = (r2 f i j).map u8 ++ [T.v (.int .u8 (IntKind.u8.wrap (opY f i j)))] := by
 rw [← u8w]
 exact ⟨(r2_step f i j).2, (r2_step f i j).1⟩
theorem r2_zero (f : FormF) (i : Ins) : r2 f i 0 = r1 f i := by simp [r2]
theorem r3_no {f : FormF} {i : Ins} (h : ¬ 0 ≤ f.mod) : r3 f i = r2 f i f.op.length := by rw [r3, if_neg h, List.append_nil]
theorem r3_yes {f : FormF} {i : Ins} (h : 0 ≤ f.mod) (h2 : (decide (f.mod = 2) && decide (baseF f i % 8 = 4)) = true) : (r3 f i).length = (r2 f i f.op.length).length + 1 + 1 ∧ (r3 f i).map u8 = (r2 f i f.op.length).map u8 ++ [T.v (.int .u8 (IntKind.u8.wrap (64 * f.mod + 8 * regX f i + baseF f i % 8)))] ++ [T.v (.int .u8 36)] := by
 rw [r3, if_pos h, modB, if_pos h2, List.length_append, List.map_append, ← u8w, List.append_assoc]
 exact ⟨rfl, rfl⟩
theorem r3_one {f : FormF} {i : Ins} (h : 0 ≤ f.mod) (h2 : ¬ (decide (f.mod = 2) && decide (baseF f i % 8 = 4)) = true) : (r3 f i).length = (r2 f i f.op.length).length + 1 ∧ (r3 f i).map u8 = (r2 f i f.op.length).map u8 ++ [T.v (.int .u8 (IntKind.u8.wrap (64 * f.mod + 8 * regX f i + baseF f i % 8)))] := by
 rw [r3, if_pos h, modB, if_neg h2, List.length_append, List.map_append, ← u8w]
 exact ⟨rfl, rfl⟩
theorem r4_zero (f : FormF) (i : Ins) : r4 f i 0 = r3 f i := by rw [r4, leBytes, List.append_nil]
theorem byteOf_mod (p : Int) : byteOf (p % 256) = byteOf p := by
 unfold byteOf
 rw [Int.emod_emod_of_dvd _ (Int.dvd_refl 256)]
theorem r4_next (f : FormF) (i : Ins) (j : Nat) : (r4 f i (j + 1)).length = (r4 f i j).length + 1 ∧ (r4 f i (j + 1)).map u8 = (r4 f i j).map u8 ++ [T.v (.int .u8 (IntKind.u8.wrap (i.imm % 18446744073709551616 / 256 ^ j % 256)))] := by
 rw [← u8w, byteOf_mod]
 exact ⟨(r4_step f i j).2, (r4_step f i j).1⟩
theorem imm_step (n : Int) (j : Nat) : 0 ≤ n % 18446744073709551616 / 256 ^ j ∧ n % 18446744073709551616 / 256 ^ j ≤ 18446744073709551615 := div_range _ j (by omega) (by omega)
theorem sizeR_le (k : Int) : sizeR k ≤ 8 := by
 unfold sizeR
 repeat' split
 all_goals decide
theorem bits_len (f : FormF) (i : Ins) : (r0 f).length ≤ 1 ∧ (r1 f i).length ≤ 2 ∧ (∀ j, (r2 f i j).length ≤ 2 + j) ∧ (r3 f i).length ≤ f.op.length + 4 ∧ ∀ j, (r4 f i j).length ≤ f.op.length + 4 + j := by
 have h0 : (r0 f).length ≤ 1 := by unfold r0; split <;> simp
 have h1 : (r1 f i).length ≤ 2 := by
  unfold r1
  rw [List.length_append]
  split <;> simp <;> omega
 have h2 : ∀ j, (r2 f i j).length ≤ 2 + j := fun j => by
  unfold r2
  rw [List.length_append, List.length_map, List.length_range]
  omega
 have h3 : (r3 f i).length ≤ f.op.length + 4 := by
  have := h2 f.op.length
  unfold r3 modB
  rw [List.length_append]
  split
  ·split <;> simp <;> omega
  ·simp; omega
 refine ⟨h0, h1, h2, h3, fun j => ?_⟩
 rw [r4, List.length_append, leBytes_length]
 omega
theorem form_get {l : List FormF} {j : Nat} (h : j < l.length) : ((l.flatMap formCells).drop (j * 12)).take 12 = formCells (l.getD j default) ∧ (formCells (l.getD j default)).length = 12 := flat_get (f := formCells) (k := 12) (fun _ => rfl) h
theorem len_forms {l : List FormF} : (l.flatMap formCells).length = l.length * 12 := len_flat (f := formCells) (k := 12) (fun _ => rfl) l
def refF (i : Ins) : Option FormF := formsF.find? (fun f => fitsF f i)
def refB (i : Ins) : List UInt8 := match refF i with
 | some f => bytesF f i
 | none => []
def refE (i : Ins) : Int := if (refF i).isSome = true then 0 else 200
end Go.Proofs.YtecpjlhbkmongaaGreat

namespace Go.Proofs.YtecpjlhbkmongaaGreat
open Go Go.RowKit

set_option maxHeartbeats 400000 in
theorem field60 (p n : Int) :
    ACalls Tryz.prog 49 [.v (.int .i64 p), .v (.int .i64 n)] [] fun t_ S => t_ = .v (.bool (fieldR p n)) := by
 refine ACalls.intro Tryz.func49 rfl Tryz.ntmps49 nB rfl fun X w0 => ?_
 refine ra ?_
 refine rs (ym ?_)
 refine Y1 (Yv.eql rfl eV eV) ?_
 refine ym ?_
 refine gT (Yv.move rfl eV) ?_
 refine gT (Yv.eql rfl (Eg rfl rfl id) eV) ?_
 refine Y1 (Yv.pickAnd rfl eV (Eg rfl rfl id)) ?_
 refine ym ?_
 refine gF (Yv.move rfl eV) ?_
 refine gF (Yv.neq rfl (Eg rfl rfl id) eV) ?_
 refine gF (Yv.move rfl (Eg rfl rfl id)) ?_
 refine gT (Yv.move rfl eV) ?_
 refine gT (Yv.geq rfl (Eg rfl rfl id) eV) ?_
 refine gF (Yv.pickAnd rfl (Eg rfl rfl id) (Eg rfl rfl id)) ?_
 refine gF (Yv.move rfl (Eg rfl rfl id)) ?_
 refine gT (Yv.move rfl eV) ?_
 refine gT (Yv.leq rfl (Eg rfl rfl id) eV) ?_
 refine gF (Yv.pickAnd rfl (Eg rfl rfl id) (Eg rfl rfl id)) ?_
 refine Y1 (Yv.pickOr (t := .const (.bool true)) rfl eV (Eg rfl rfl id)) ?_
 refine ya ?_
 refine AW.ret (retI (.tmp rfl .nil) ?_)
 rfl

set_option maxHeartbeats 400000 in
theorem within69 (n lo hi : Int) :
    ACalls Tryz.prog 74 [.v (.int .i64 n), .v (.int .i64 lo), .v (.int .i64 hi)] [] fun t_ S => t_ = .v (.bool (inF n lo hi)) := by
 refine ACalls.intro Tryz.func74 rfl Tryz.ntmps74 nB rfl fun X w0 => ?_
 refine ra ?_
 refine rs (ym ?_)
 refine ym ?_
 refine Y1 (Yv.geq rfl eV eV) ?_
 refine ym ?_
 refine gT (Yv.move rfl eV) ?_
 refine gT (Yv.move rfl eV) ?_
 refine gT (Yv.leq rfl (Eg rfl rfl id) (Eg rfl rfl id)) ?_
 refine Y1 (Yv.pickAnd rfl eV (Eg rfl rfl id)) ?_
 refine ya ?_
 refine AW.ret (retI (.tmp rfl .nil) ?_)
 rfl

set_option maxHeartbeats 400000 in
theorem short70 (n : Int) :
    ACalls Tryz.prog 75 [.v (.int .i64 n)] [] fun t_ S => t_ = .v (.bool (smallF n)) := by
 refine ACalls.intro Tryz.func75 rfl Tryz.ntmps75 nB rfl fun X w0 => ?_
 refine ra ?_
 refine rs (ym ?_)
 refine AWL.callP rfl rfl (B rfl) rfl ce_74 (E rfl rfl) (evsC (E rfl rfl) (evsC (E rfl rfl) (evsC (E rfl rfl) evs0))) (within69 n _ _) (fun t S h => h) ?_
 refine ya ?_
 refine AW.ret (retI (.tmp rfl .nil) ?_)
 rfl

set_option maxHeartbeats 400000 in
theorem number61 (f : FormF) (n : Int) :
    ACalls Tryz.prog 50 [formT f, .v (.int .i64 n)] [] fun t_ S => t_ = .v (.bool (numberR f n)) := by
 refine ACalls.intro Tryz.func50 rfl Tryz.ntmps50 nB rfl fun X w0 => ?_
 refine rs ?_
 refine AWL.boxOp rfl rfl (B rfl) rfl (E rfl rfl) rfl (fun b2 => ?_)
 refine ya ?_
 refine AW.seq ?_
 refine rs (yf fo_114_11 ?_)
 refine yl ag_3 0 (nl ?_)
 refine AW.block ?_
 refine rs (Y1 (Yv.eql rfl eV eV) ?_)
 refine ya ?_
 refine AW.cond rfl (fun h0t => ?_) (fun h0f => ?_)
 ·
  try replace h0t := odt h0t
  refine rs (ym ?_)
  refine Y1 (Yv.eql rfl eV eV) ?_
  refine ya ?_
  refine AW.ret (retI (.tmp rfl .nil) ?_)
  show T.v (.bool _) = T.v (.bool _)
  rw [numberR, if_pos h0t]
 try replace h0f := odf h0f
 refine rs (Y1 (Yv.eql rfl eV eV) ?_)
 refine ya ?_
 refine AW.cond rfl (fun h1t => ?_) (fun h1f => ?_)
 ·
  try replace h1t := odt h1t
  refine AW.seq ?_
  refine rs (yf fo_114_0 ?_)
  refine yl ag_3 0 ?_
  refine Y1 (Yv.eql rfl eV eV) ?_
  refine ym ?_
  refine gF (Yv.fieldBox rfl fo_114_0 eV) ?_
  refine gF (Yv.loadBox rfl ag_3 (i := 0) rfl (Eg rfl rfl id) rfl) ?_
  refine gF (Yv.eql rfl (Eg rfl rfl id) eV) ?_
  refine Y1 (Yv.pickOr (t := .const (.bool true)) rfl eV (Eg rfl rfl id)) (nl ?_)
  refine AW.cond rfl (fun h2t => ?_) (fun h2f => ?_)
  ·
   try replace h2t := odt h2t
   refine rs (ym ?_)
   refine AWL.callP rfl rfl (B rfl) rfl ce_74 (E rfl rfl) (evsC (E rfl rfl) (evsC (E rfl rfl) (evsC (E rfl rfl) evs0))) (within69 n _ _) (fun t S h => h) ?_
   refine ya ?_
   refine AW.ret (retI (.tmp rfl .nil) ?_)
   show T.v (.bool _) = T.v (.bool _)
   rw [numberR, if_neg h0f, if_pos h1t, if_pos h2t]
  try replace h2f := odf h2f
  refine AW.skip ?_
  refine rs (ym ?_)
  refine AWL.callP rfl rfl (B rfl) rfl ce_74 (E rfl rfl) (evsC (E rfl rfl) (evsC (E rfl rfl) (evsC (E rfl rfl) evs0))) (within69 n _ _) (fun t S h => h) ?_
  refine ya ?_
  refine AW.ret (retI (.tmp rfl .nil) ?_)
  show T.v (.bool _) = T.v (.bool _)
  rw [numberR, if_neg h0f, if_pos h1t, if_neg (ne_true_of_eq_false h2f)]
 try replace h1f := odf h1f
 refine rs (Y1 (Yv.eql rfl eV eV) ?_)
 refine ya ?_
 refine AW.cond rfl (fun h3t => ?_) (fun h3f => ?_)
 ·
  try replace h3t := odt h3t
  refine rs (ym ?_)
  refine AWL.callP rfl rfl (B rfl) rfl ce_75 (E rfl rfl) (evsC (E rfl rfl) evs0) (short70 n) (fun t S h => h) ?_
  refine ya ?_
  refine AW.ret (retI (.tmp rfl .nil) ?_)
  show T.v (.bool _) = T.v (.bool _)
  rw [numberR, if_neg h0f, if_neg h1f, if_pos h3t]
 try replace h3f := odf h3f
 refine AW.skip ?_
 refine rs (ym ?_)
 refine AWL.callP rfl rfl (B rfl) rfl ce_75 (E rfl rfl) (evsC (E rfl rfl) evs0) (short70 n) (fun t S h => h) ?_
 refine Y1 (Yv.not rfl eV) ?_
 refine ya ?_
 refine AW.ret (retI (.tmp rfl .nil) ?_)
 show T.v (.bool _) = T.v (.bool _)
 rw [numberR, if_neg h0f, if_neg h1f, if_neg h3f]

set_option maxHeartbeats 400000 in
theorem fits51 (f : FormF) (i : Ins) :
    ACalls Tryz.prog 38 [formT f, insT i] [] fun t_ S => t_ = .v (.bool (fitsF f i)) := by
 refine ACalls.intro Tryz.func38 rfl Tryz.ntmps38 nB rfl fun X w0 => ?_
 refine rs ?_
 refine AWL.boxOp rfl rfl (B rfl) rfl (E rfl rfl) rfl (fun b2 => ?_)
 refine AWL.boxOp rfl rfl (B rfl) rfl (E rfl rfl) rfl (fun b3 => ?_)
 refine ya ?_
 refine rs (yf fo_114_8 ?_)
 refine yl ag_3 0 ?_
 refine yf fo_57_1 ?_
 refine yl ag_3 1 ?_
 refine AWL.callP rfl rfl (B rfl) rfl ce_49 (E rfl rfl) (evsC (E rfl rfl) (evsC (E rfl rfl) evs0)) (field60 f.d i.d) (fun t S h => h) ?_
 refine ya ?_
 refine rs (yf fo_114_9 ?_)
 refine yl ag_3 0 ?_
 refine yf fo_57_2 ?_
 refine yl ag_3 1 ?_
 refine AWL.callP rfl rfl (B rfl) rfl ce_49 (E rfl rfl) (evsC (E rfl rfl) (evsC (E rfl rfl) evs0)) (field60 f.s i.s) (fun t S h => h) ?_
 refine ya ?_
 refine rs (yf fo_114_10 ?_)
 refine yl ag_3 0 ?_
 refine yf fo_57_3 ?_
 refine yl ag_3 1 ?_
 refine AWL.callP rfl rfl (B rfl) rfl ce_49 (E rfl rfl) (evsC (E rfl rfl) (evsC (E rfl rfl) evs0)) (field60 f.cond i.cond) (fun t S h => h) ?_
 refine ya ?_
 refine rs (Y1 (Yv.loadBoxA rfl ag_114 (i := 0) rfl eV rfl rfl) ?_)
 refine yf fo_57_5 ?_
 refine yl ag_2 1 ?_
 refine AWL.callP rfl rfl (B rfl) rfl ce_50 (E rfl rfl) (evsC (E rfl rfl) (evsC (E rfl rfl) evs0)) (number61 f i.imm) (fun t S h => h) ?_
 refine ya ?_
 refine rs (yf fo_114_0 ?_)
 refine yl ag_3 0 ?_
 refine yf fo_57_0 ?_
 refine yl ag_3 1 ?_
 refine Y1 (Yv.eql rfl eV eV) ?_
 refine ym ?_
 refine gT (Yv.fieldBox rfl fo_114_1 eV) ?_
 refine gT (Yv.loadBox rfl ag_3 (i := 0) rfl (Eg rfl rfl id) rfl) ?_
 refine gT (Yv.fieldBox rfl fo_57_4 eV) ?_
 refine gT (Yv.loadBox rfl ag_3 (i := 1) rfl (Eg rfl rfl id) rfl) ?_
 refine gT (Yv.eql rfl (Eg rfl rfl id) (Eg rfl rfl id)) ?_
 refine Y1 (Yv.pickAnd rfl eV (Eg rfl rfl id)) ?_
 refine ym ?_
 refine gT (Yv.move rfl eV) ?_
 refine Y1 (Yv.pickAnd rfl eV (Eg rfl rfl id)) ?_
 refine ym ?_
 refine gT (Yv.move rfl eV) ?_
 refine Y1 (Yv.pickAnd rfl eV (Eg rfl rfl id)) ?_
 refine ym ?_
 refine gT (Yv.move rfl eV) ?_
 refine Y1 (Yv.pickAnd rfl eV (Eg rfl rfl id)) ?_
 refine ym ?_
 refine gT (Yv.move rfl eV) ?_
 refine Y1 (Yv.pickAnd rfl eV (Eg rfl rfl id)) ?_
 refine ya ?_
 refine AW.ret (retI (.tmp rfl .nil) ?_)
 rfl

set_option maxHeartbeats 400000 in
theorem at71 (f : FormF) (i : Ins) (p : Int) :
    ACalls Tryz.prog 51 [formT f, insT i, .v (.int .i64 p)] [] fun t_ S => t_ = .v (.int .i64 (atF f i p)) := by
 refine ACalls.intro Tryz.func51 rfl Tryz.ntmps51 nB rfl fun X w0 => ?_
 refine rs ?_
 refine AWL.boxOp rfl rfl (B rfl) rfl (E rfl rfl) rfl (fun b3 => ?_)
 refine AWL.boxOp rfl rfl (B rfl) rfl (E rfl rfl) rfl (fun b4 => ?_)
 refine ya ?_
 refine AW.seq ?_
 refine rs (yf fo_114_8 ?_)
 refine yl ag_3 0 ?_
 refine ym ?_
 refine Y1 (Yv.eql rfl eV eV) (nl ?_)
 refine AW.cond rfl (fun h0t => ?_) (fun h0f => ?_)
 ·
  try replace h0t := odt h0t
  refine rs (yf fo_57_1 ?_)
  refine yl ag_3 1 ?_
  refine ya ?_
  refine AW.ret (retI (.tmp rfl .nil) ?_)
  show T.v (.int .i64 _) = T.v (.int .i64 _)
  rw [atF, if_pos h0t]
 try replace h0f := odf h0f
 refine AW.skip ?_
 refine AW.seq ?_
 refine rs (yf fo_114_9 ?_)
 refine yl ag_3 0 ?_
 refine ym ?_
 refine Y1 (Yv.eql rfl eV eV) (nl ?_)
 refine AW.cond rfl (fun h1t => ?_) (fun h1f => ?_)
 ·
  try replace h1t := odt h1t
  refine rs (yf fo_57_2 ?_)
  refine yl ag_3 1 ?_
  refine ya ?_
  refine AW.ret (retI (.tmp rfl .nil) ?_)
  show T.v (.int .i64 _) = T.v (.int .i64 _)
  rw [atF, if_neg h0f, if_pos h1t]
 try replace h1f := odf h1f
 refine AW.skip ?_
 refine ra ?_
 refine AW.ret (retI (.tmp rfl .nil) ?_)
 show T.v (.int .i64 _) = T.v (.int .i64 _)
 rw [atF, if_neg h0f, if_neg h1f]

set_option maxHeartbeats 2000000 in
theorem plain56 (k d s : Int) (o : List T) :
    ACalls Tryz.prog 45 [.v (.int .i64 k), .v (.int .i64 d), .v (.int .i64 s), .sl 1 o] [] fun t_ S => t_ = .agg [.v (.int .i64 k), .v (.int .i64 0), .v (.int .i64 0), .v (.bool true), .v (.int .i64 1), .sl 1 o, .v (.int .i64 3), .v (.int .i64 0), .v (.int .i64 d), .v (.int .i64 s), .v (.int .i64 0), .v (.int .i64 0)] := by
 refine ACalls.intro Tryz.func45 rfl Tryz.ntmps45 nB rfl fun X w0 => ?_
 refine rs ?_
 refine AWL.allocOp rfl rfl (B rfl) rfl zc_114 (fun b8 => ?_)
 refine nl ?_
 refine rs (ym ?_)
 refine ym ?_
 refine ym ?_
 refine ym ?_
 refine Y1 (Yv.buildS (cs := [.v (.int .i64 k), .v (.int .i64 0), .v (.int .i64 0), .v (.bool true), .v (.int .i64 1), .sl 1 o, .v (.int .i64 3), .v (.int .i64 0), .v (.int .i64 d), .v (.int .i64 s), .v (.int .i64 0), .v (.int .i64 0)]) rfl sh_114 (evpC eV (evpC eV (evpC eV (evpC eV (evpC eV (evpC eV (evpC eV evp0))))))) (fun _ => by kernel_rfl)) ?_
 refine AWL.storeBox (i := 0) rfl rfl rfl ag_114 rfl (E rfl rfl) (E rfl rfl) rfl rfl nB (nl ?_)
 refine AW.ret (retI (.cellA (i := 0) rfl ag_114 rfl rfl rfl .nil) ?_)
 rfl

set_option maxHeartbeats 2000000 in
theorem digit57 (k n m o : Int) :
    ACalls Tryz.prog 46 [.v (.int .i64 k), .v (.int .i64 n), .v (.int .i64 m), .v (.int .i64 o)] [] fun t_ S => t_ = .agg [.v (.int .i64 k), .v (.int .i64 0), .v (.int .i64 0), .v (.bool true), .v (.int .i64 1), .sl 1 [.v (.int .i64 o)], .v (.int .i64 3), .v (.int .i64 n), .v (.int .i64 2), .v (.int .i64 0), .v (.int .i64 0), .v (.int .i64 m)] := by
 refine ACalls.intro Tryz.func46 rfl Tryz.ntmps46 nB rfl fun X w0 => ?_
 refine rs ?_
 refine AWL.allocOp rfl rfl (B rfl) rfl zc_114 (fun b8 => ?_)
 refine nl ?_
 refine rs (ym ?_)
 refine ym ?_
 refine AWL.buildSlice1 rfl rfl (B rfl) rfl el_112 rfl (evsC (E rfl rfl) evs0) nB rfl rfl ?_
 refine ym ?_
 refine ym ?_
 refine Y1 (Yv.buildS (cs := [.v (.int .i64 k), .v (.int .i64 0), .v (.int .i64 0), .v (.bool true), .v (.int .i64 1), .sl 1 [.v (.int .i64 o)], .v (.int .i64 3), .v (.int .i64 n), .v (.int .i64 2), .v (.int .i64 0), .v (.int .i64 0), .v (.int .i64 m)]) rfl sh_114 (evpC eV (evpC eV (evpC eV (evpC eV (evpC eV (evpC eV (evpC eV (evpC eV evp0)))))))) (fun _ => by kernel_rfl)) ?_
 refine AWL.storeBox (i := 0) rfl rfl rfl ag_114 rfl (E rfl rfl) (E rfl rfl) rfl rfl nB (nl ?_)
 refine AW.ret (retI (.cellA (i := 0) rfl ag_114 rfl rfl rfl .nil) ?_)
 rfl

set_option maxHeartbeats 2000000 in
theorem mem58 (k z w d s : Int) (o : List T) :
    ACalls Tryz.prog 47 [.v (.int .i64 k), .v (.int .i64 z), .v (.int .i64 w), .v (.int .i64 d), .v (.int .i64 s), .sl 1 o] [] fun t_ S => t_ = .agg [.v (.int .i64 k), .v (.int .i64 z), .v (.int .i64 0), .v (.bool true), .v (.int .i64 w), .sl 1 o, .v (.int .i64 2), .v (.int .i64 0), .v (.int .i64 d), .v (.int .i64 s), .v (.int .i64 0), .v (.int .i64 6)] := by
 refine ACalls.intro Tryz.func47 rfl Tryz.ntmps47 nB rfl fun X w0 => ?_
 refine rs ?_
 refine AWL.allocOp rfl rfl (B rfl) rfl zc_114 (fun b12 => ?_)
 refine nl ?_
 refine rs (ym ?_)
 refine ym ?_
 refine ym ?_
 refine ym ?_
 refine ym ?_
 refine ym ?_
 refine Y1 (Yv.buildS (cs := [.v (.int .i64 k), .v (.int .i64 z), .v (.int .i64 0), .v (.bool true), .v (.int .i64 w), .sl 1 o, .v (.int .i64 2), .v (.int .i64 0), .v (.int .i64 d), .v (.int .i64 s), .v (.int .i64 0), .v (.int .i64 6)]) rfl sh_114 (evpC eV (evpC eV (evpC eV (evpC eV (evpC eV (evpC eV (evpC eV (evpC eV (evpC eV evp0))))))))) (fun _ => by kernel_rfl)) ?_
 refine AWL.storeBox (i := 0) rfl rfl rfl ag_114 rfl (E rfl rfl) (E rfl rfl) rfl rfl nB (nl ?_)
 refine AW.ret (retI (.cellA (i := 0) rfl ag_114 rfl rfl rfl .nil) ?_)
 rfl

set_option maxHeartbeats 2000000 in
theorem real59 (k f w d s o : Int) :
    ACalls Tryz.prog 48 [.v (.int .i64 k), .v (.int .i64 f), .v (.int .i64 w), .v (.int .i64 d), .v (.int .i64 s), .v (.int .i64 o)] [] fun t_ S => t_ = .agg [.v (.int .i64 k), .v (.int .i64 0), .v (.int .i64 f), .v (.bool true), .v (.int .i64 w), .sl 1 [.v (.int .i64 15), .v (.int .i64 o)], .v (.int .i64 3), .v (.int .i64 0), .v (.int .i64 d), .v (.int .i64 s), .v (.int .i64 0), .v (.int .i64 0)] := by
 refine ACalls.intro Tryz.func48 rfl Tryz.ntmps48 nB rfl fun X w0 => ?_
 refine rs ?_
 refine AWL.allocOp rfl rfl (B rfl) rfl zc_114 (fun b12 => ?_)
 refine nl ?_
 refine rs (ym ?_)
 refine ym ?_
 refine ym ?_
 refine ym ?_
 refine AWL.buildSlice1 rfl rfl (B rfl) rfl el_112 rfl (evsC (E rfl rfl) (evsC (E rfl rfl) evs0)) nB rfl rfl ?_
 refine ym ?_
 refine ym ?_
 refine Y1 (Yv.buildS (cs := [.v (.int .i64 k), .v (.int .i64 0), .v (.int .i64 f), .v (.bool true), .v (.int .i64 w), .sl 1 [.v (.int .i64 15), .v (.int .i64 o)], .v (.int .i64 3), .v (.int .i64 0), .v (.int .i64 d), .v (.int .i64 s), .v (.int .i64 0), .v (.int .i64 0)]) rfl sh_114 (evpC eV (evpC eV (evpC eV (evpC eV (evpC eV (evpC eV (evpC eV (evpC eV evp0)))))))) (fun _ => by kernel_rfl)) ?_
 refine AWL.storeBox (i := 0) rfl rfl rfl ag_114 rfl (E rfl rfl) (E rfl rfl) rfl rfl nB (nl ?_)
 refine AW.ret (retI (.cellA (i := 0) rfl ag_114 rfl rfl rfl .nil) ?_)
 rfl

set_option maxRecDepth 4000 in
set_option maxHeartbeats 4000000 in
theorem forms50  :
    ACalls Tryz.prog 37 [] [] fun t_ S => t_ = .sl 12 (formsF.flatMap formCells) := by
 refine ACalls.intro Tryz.func37 rfl Tryz.ntmps37 nB rfl fun X w0 => ?_
 refine ra ?_
 refine rs ?_
 refine AWL.buildSlice1 rfl rfl (B rfl) rfl el_112 rfl (evsC (E rfl rfl) evs0) nB rfl rfl ?_
 refine AWL.callT rfl rfl (B rfl) rfl ce_45 (E rfl rfl) (evsC (E rfl rfl) (evsC (E rfl rfl) (evsC (E rfl rfl) (evsC (E rfl rfl) evs0)))) (plain56 _ _ _ _) ?_
 rintro t2 S2 rfl
 refine AWL.callT rfl rfl (B rfl) rfl ce_46 (E rfl rfl) (evsC (E rfl rfl) (evsC (E rfl rfl) (evsC (E rfl rfl) (evsC (E rfl rfl) evs0)))) (digit57 _ _ _ _) ?_
 rintro t3 S3 rfl
 refine AWL.buildSlice1 rfl rfl (B rfl) rfl el_112 rfl (evsC (E rfl rfl) evs0) nB rfl rfl ?_
 refine Y1 (Yv.buildS (cs := [.v (.int .i64 (2)), .v (.int .i64 (0)), .v (.int .i64 (0)), .v (.bool true), .v (.int .i64 (1)), .sl 1 [.v (.int .i64 184)], .v (.int .i64 (-1)), .v (.int .i64 (0)), .v (.int .i64 (3)), .v (.int .i64 (0)), .v (.int .i64 (0)), .v (.int .i64 (7))]) rfl sh_114 (evpC eV (evpC eV (evpC eV (evpC eV (evpC eV (evpC eV (evpC eV evp0))))))) (fun _ => by kernel_rfl)) ?_
 refine AWL.buildSlice1 rfl rfl (B rfl) rfl el_112 rfl (evsC (E rfl rfl) evs0) nB rfl rfl ?_
 refine AWL.callT rfl rfl (B rfl) rfl ce_47 (E rfl rfl) (evsC (E rfl rfl) (evsC (E rfl rfl) (evsC (E rfl rfl) (evsC (E rfl rfl) (evsC (E rfl rfl) (evsC (E rfl rfl) evs0)))))) (mem58 _ _ _ _ _ _) ?_
 rintro t7 S7 rfl
 refine AWL.buildSlice1 rfl rfl (B rfl) rfl el_112 rfl (evsC (E rfl rfl) evs0) nB rfl rfl ?_
 refine AWL.callT rfl rfl (B rfl) rfl ce_47 (E rfl rfl) (evsC (E rfl rfl) (evsC (E rfl rfl) (evsC (E rfl rfl) (evsC (E rfl rfl) (evsC (E rfl rfl) (evsC (E rfl rfl) evs0)))))) (mem58 _ _ _ _ _ _) ?_
 rintro t9 S9 rfl
 refine AWL.buildSlice1 rfl rfl (B rfl) rfl el_112 rfl (evsC (E rfl rfl) (evsC (E rfl rfl) evs0)) nB rfl rfl ?_
 refine AWL.callT rfl rfl (B rfl) rfl ce_47 (E rfl rfl) (evsC (E rfl rfl) (evsC (E rfl rfl) (evsC (E rfl rfl) (evsC (E rfl rfl) (evsC (E rfl rfl) (evsC (E rfl rfl) evs0)))))) (mem58 _ _ _ _ _ _) ?_
 rintro t11 S11 rfl
 refine AWL.buildSlice1 rfl rfl (B rfl) rfl el_112 rfl (evsC (E rfl rfl) evs0) nB rfl rfl ?_
 refine AWL.callT rfl rfl (B rfl) rfl ce_47 (E rfl rfl) (evsC (E rfl rfl) (evsC (E rfl rfl) (evsC (E rfl rfl) (evsC (E rfl rfl) (evsC (E rfl rfl) (evsC (E rfl rfl) evs0)))))) (mem58 _ _ _ _ _ _) ?_
 rintro t13 S13 rfl
 refine AWL.buildSlice1 rfl rfl (B rfl) rfl el_112 rfl (evsC (E rfl rfl) evs0) nB rfl rfl ?_
 refine AWL.callT rfl rfl (B rfl) rfl ce_47 (E rfl rfl) (evsC (E rfl rfl) (evsC (E rfl rfl) (evsC (E rfl rfl) (evsC (E rfl rfl) (evsC (E rfl rfl) (evsC (E rfl rfl) evs0)))))) (mem58 _ _ _ _ _ _) ?_
 rintro t15 S15 rfl
 refine AWL.buildSlice1 rfl rfl (B rfl) rfl el_112 rfl (evsC (E rfl rfl) evs0) nB rfl rfl ?_
 refine AWL.callT rfl rfl (B rfl) rfl ce_47 (E rfl rfl) (evsC (E rfl rfl) (evsC (E rfl rfl) (evsC (E rfl rfl) (evsC (E rfl rfl) (evsC (E rfl rfl) (evsC (E rfl rfl) evs0)))))) (mem58 _ _ _ _ _ _) ?_
 rintro t17 S17 rfl
 refine AWL.buildSlice1 rfl rfl (B rfl) rfl el_112 rfl (evsC (E rfl rfl) evs0) nB rfl rfl ?_
 refine AWL.callT rfl rfl (B rfl) rfl ce_47 (E rfl rfl) (evsC (E rfl rfl) (evsC (E rfl rfl) (evsC (E rfl rfl) (evsC (E rfl rfl) (evsC (E rfl rfl) (evsC (E rfl rfl) evs0)))))) (mem58 _ _ _ _ _ _) ?_
 rintro t19 S19 rfl
 refine AWL.buildSlice1 rfl rfl (B rfl) rfl el_112 rfl (evsC (E rfl rfl) evs0) nB rfl rfl ?_
 refine AWL.callT rfl rfl (B rfl) rfl ce_45 (E rfl rfl) (evsC (E rfl rfl) (evsC (E rfl rfl) (evsC (E rfl rfl) (evsC (E rfl rfl) evs0)))) (plain56 _ _ _ _) ?_
 rintro t21 S21 rfl
 refine AWL.buildSlice1 rfl rfl (B rfl) rfl el_112 rfl (evsC (E rfl rfl) evs0) nB rfl rfl ?_
 refine AWL.callT rfl rfl (B rfl) rfl ce_45 (E rfl rfl) (evsC (E rfl rfl) (evsC (E rfl rfl) (evsC (E rfl rfl) (evsC (E rfl rfl) evs0)))) (plain56 _ _ _ _) ?_
 rintro t23 S23 rfl
 refine AWL.buildSlice1 rfl rfl (B rfl) rfl el_112 rfl (evsC (E rfl rfl) evs0) nB rfl rfl ?_
 refine AWL.callT rfl rfl (B rfl) rfl ce_45 (E rfl rfl) (evsC (E rfl rfl) (evsC (E rfl rfl) (evsC (E rfl rfl) (evsC (E rfl rfl) evs0)))) (plain56 _ _ _ _) ?_
 rintro t25 S25 rfl
 refine AWL.buildSlice1 rfl rfl (B rfl) rfl el_112 rfl (evsC (E rfl rfl) evs0) nB rfl rfl ?_
 refine AWL.callT rfl rfl (B rfl) rfl ce_45 (E rfl rfl) (evsC (E rfl rfl) (evsC (E rfl rfl) (evsC (E rfl rfl) (evsC (E rfl rfl) evs0)))) (plain56 _ _ _ _) ?_
 rintro t27 S27 rfl
 refine AWL.buildSlice1 rfl rfl (B rfl) rfl el_112 rfl (evsC (E rfl rfl) evs0) nB rfl rfl ?_
 refine AWL.callT rfl rfl (B rfl) rfl ce_45 (E rfl rfl) (evsC (E rfl rfl) (evsC (E rfl rfl) (evsC (E rfl rfl) (evsC (E rfl rfl) evs0)))) (plain56 _ _ _ _) ?_
 rintro t29 S29 rfl
 refine AWL.buildSlice1 rfl rfl (B rfl) rfl el_112 rfl (evsC (E rfl rfl) evs0) nB rfl rfl ?_
 refine AWL.callT rfl rfl (B rfl) rfl ce_45 (E rfl rfl) (evsC (E rfl rfl) (evsC (E rfl rfl) (evsC (E rfl rfl) (evsC (E rfl rfl) evs0)))) (plain56 _ _ _ _) ?_
 rintro t31 S31 rfl
 refine AWL.buildSlice1 rfl rfl (B rfl) rfl el_112 rfl (evsC (E rfl rfl) evs0) nB rfl rfl ?_
 refine AWL.callT rfl rfl (B rfl) rfl ce_45 (E rfl rfl) (evsC (E rfl rfl) (evsC (E rfl rfl) (evsC (E rfl rfl) (evsC (E rfl rfl) evs0)))) (plain56 _ _ _ _) ?_
 rintro t33 S33 rfl
 refine AWL.buildSlice1 rfl rfl (B rfl) rfl el_112 rfl (evsC (E rfl rfl) evs0) nB rfl rfl ?_
 refine AWL.callT rfl rfl (B rfl) rfl ce_45 (E rfl rfl) (evsC (E rfl rfl) (evsC (E rfl rfl) (evsC (E rfl rfl) (evsC (E rfl rfl) evs0)))) (plain56 _ _ _ _) ?_
 rintro t35 S35 rfl
 refine AWL.buildSlice1 rfl rfl (B rfl) rfl el_112 rfl (evsC (E rfl rfl) evs0) nB rfl rfl ?_
 refine AWL.callT rfl rfl (B rfl) rfl ce_45 (E rfl rfl) (evsC (E rfl rfl) (evsC (E rfl rfl) (evsC (E rfl rfl) (evsC (E rfl rfl) evs0)))) (plain56 _ _ _ _) ?_
 rintro t37 S37 rfl
 refine AWL.callT rfl rfl (B rfl) rfl ce_46 (E rfl rfl) (evsC (E rfl rfl) (evsC (E rfl rfl) (evsC (E rfl rfl) (evsC (E rfl rfl) evs0)))) (digit57 _ _ _ _) ?_
 rintro t38 S38 rfl
 refine AWL.callT rfl rfl (B rfl) rfl ce_46 (E rfl rfl) (evsC (E rfl rfl) (evsC (E rfl rfl) (evsC (E rfl rfl) (evsC (E rfl rfl) evs0)))) (digit57 _ _ _ _) ?_
 rintro t39 S39 rfl
 refine AWL.callT rfl rfl (B rfl) rfl ce_46 (E rfl rfl) (evsC (E rfl rfl) (evsC (E rfl rfl) (evsC (E rfl rfl) (evsC (E rfl rfl) evs0)))) (digit57 _ _ _ _) ?_
 rintro t40 S40 rfl
 refine AWL.callT rfl rfl (B rfl) rfl ce_46 (E rfl rfl) (evsC (E rfl rfl) (evsC (E rfl rfl) (evsC (E rfl rfl) (evsC (E rfl rfl) evs0)))) (digit57 _ _ _ _) ?_
 rintro t41 S41 rfl
 refine AWL.callT rfl rfl (B rfl) rfl ce_46 (E rfl rfl) (evsC (E rfl rfl) (evsC (E rfl rfl) (evsC (E rfl rfl) (evsC (E rfl rfl) evs0)))) (digit57 _ _ _ _) ?_
 rintro t42 S42 rfl
 refine AWL.callT rfl rfl (B rfl) rfl ce_46 (E rfl rfl) (evsC (E rfl rfl) (evsC (E rfl rfl) (evsC (E rfl rfl) (evsC (E rfl rfl) evs0)))) (digit57 _ _ _ _) ?_
 rintro t43 S43 rfl
 refine AWL.buildSlice1 rfl rfl (B rfl) rfl el_112 rfl (evsC (E rfl rfl) (evsC (E rfl rfl) evs0)) nB rfl rfl ?_
 refine AWL.callT rfl rfl (B rfl) rfl ce_45 (E rfl rfl) (evsC (E rfl rfl) (evsC (E rfl rfl) (evsC (E rfl rfl) (evsC (E rfl rfl) evs0)))) (plain56 _ _ _ _) ?_
 rintro t45 S45 rfl
 refine AWL.callT rfl rfl (B rfl) rfl ce_46 (E rfl rfl) (evsC (E rfl rfl) (evsC (E rfl rfl) (evsC (E rfl rfl) (evsC (E rfl rfl) evs0)))) (digit57 _ _ _ _) ?_
 rintro t46 S46 rfl
 refine AWL.callT rfl rfl (B rfl) rfl ce_46 (E rfl rfl) (evsC (E rfl rfl) (evsC (E rfl rfl) (evsC (E rfl rfl) (evsC (E rfl rfl) evs0)))) (digit57 _ _ _ _) ?_
 rintro t47 S47 rfl
 refine AWL.callT rfl rfl (B rfl) rfl ce_46 (E rfl rfl) (evsC (E rfl rfl) (evsC (E rfl rfl) (evsC (E rfl rfl) (evsC (E rfl rfl) evs0)))) (digit57 _ _ _ _) ?_
 rintro t48 S48 rfl
 refine AWL.callT rfl rfl (B rfl) rfl ce_46 (E rfl rfl) (evsC (E rfl rfl) (evsC (E rfl rfl) (evsC (E rfl rfl) (evsC (E rfl rfl) evs0)))) (digit57 _ _ _ _) ?_
 rintro t49 S49 rfl
 refine AWL.callT rfl rfl (B rfl) rfl ce_46 (E rfl rfl) (evsC (E rfl rfl) (evsC (E rfl rfl) (evsC (E rfl rfl) (evsC (E rfl rfl) evs0)))) (digit57 _ _ _ _) ?_
 rintro t50 S50 rfl
 refine AWL.callT rfl rfl (B rfl) rfl ce_46 (E rfl rfl) (evsC (E rfl rfl) (evsC (E rfl rfl) (evsC (E rfl rfl) (evsC (E rfl rfl) evs0)))) (digit57 _ _ _ _) ?_
 rintro t51 S51 rfl
 refine AWL.callT rfl rfl (B rfl) rfl ce_46 (E rfl rfl) (evsC (E rfl rfl) (evsC (E rfl rfl) (evsC (E rfl rfl) (evsC (E rfl rfl) evs0)))) (digit57 _ _ _ _) ?_
 rintro t52 S52 rfl
 refine AWL.callT rfl rfl (B rfl) rfl ce_46 (E rfl rfl) (evsC (E rfl rfl) (evsC (E rfl rfl) (evsC (E rfl rfl) (evsC (E rfl rfl) evs0)))) (digit57 _ _ _ _) ?_
 rintro t53 S53 rfl
 refine AWL.callT rfl rfl (B rfl) rfl ce_46 (E rfl rfl) (evsC (E rfl rfl) (evsC (E rfl rfl) (evsC (E rfl rfl) (evsC (E rfl rfl) evs0)))) (digit57 _ _ _ _) ?_
 rintro t54 S54 rfl
 refine AWL.callT rfl rfl (B rfl) rfl ce_46 (E rfl rfl) (evsC (E rfl rfl) (evsC (E rfl rfl) (evsC (E rfl rfl) (evsC (E rfl rfl) evs0)))) (digit57 _ _ _ _) ?_
 rintro t55 S55 rfl
 refine AWL.buildSlice1 rfl rfl (B rfl) rfl el_112 rfl (evsC (E rfl rfl) (evsC (E rfl rfl) evs0)) nB rfl rfl ?_
 refine Y1 (Yv.buildS (cs := [.v (.int .i64 (32)), .v (.int .i64 (0)), .v (.int .i64 (0)), .v (.bool true), .v (.int .i64 (0)), .sl 1 [.v (.int .i64 15), .v (.int .i64 144)], .v (.int .i64 (3)), .v (.int .i64 (0)), .v (.int .i64 (2)), .v (.int .i64 (0)), .v (.int .i64 (4)), .v (.int .i64 (0))]) rfl sh_114 (evpC eV (evpC eV (evpC eV (evpC eV (evpC eV (evpC eV evp0)))))) (fun _ => by kernel_rfl)) ?_
 refine AWL.buildSlice1 rfl rfl (B rfl) rfl el_112 rfl (evsC (E rfl rfl) (evsC (E rfl rfl) evs0)) nB rfl rfl ?_
 refine AWL.callT rfl rfl (B rfl) rfl ce_45 (E rfl rfl) (evsC (E rfl rfl) (evsC (E rfl rfl) (evsC (E rfl rfl) (evsC (E rfl rfl) evs0)))) (plain56 _ _ _ _) ?_
 rintro t59 S59 rfl
 refine AWL.buildSlice1 rfl rfl (B rfl) rfl el_112 rfl (evsC (E rfl rfl) (evsC (E rfl rfl) evs0)) nB rfl rfl ?_
 refine Y1 (Yv.buildS (cs := [.v (.int .i64 (34)), .v (.int .i64 (0)), .v (.int .i64 (0)), .v (.bool true), .v (.int .i64 (1)), .sl 1 [.v (.int .i64 15), .v (.int .i64 64)], .v (.int .i64 (3)), .v (.int .i64 (0)), .v (.int .i64 (1)), .v (.int .i64 (2)), .v (.int .i64 (4)), .v (.int .i64 (0))]) rfl sh_114 (evpC eV (evpC eV (evpC eV (evpC eV (evpC eV (evpC eV (evpC eV (evpC eV evp0)))))))) (fun _ => by kernel_rfl)) ?_
 refine AWL.buildSlice1 rfl rfl (B rfl) rfl el_112 rfl (evsC (E rfl rfl) evs0) nB rfl rfl ?_
 refine Y1 (Yv.buildS (cs := [.v (.int .i64 (35)), .v (.int .i64 (1)), .v (.int .i64 (0)), .v (.bool false), .v (.int .i64 (0)), .sl 1 [.v (.int .i64 235)], .v (.int .i64 (-1)), .v (.int .i64 (0)), .v (.int .i64 (0)), .v (.int .i64 (0)), .v (.int .i64 (0)), .v (.int .i64 (5))]) rfl sh_114 (evpC eV (evpC eV (evpC eV (evpC eV (evpC eV evp0))))) (fun _ => by kernel_rfl)) ?_
 refine AWL.buildSlice1 rfl rfl (B rfl) rfl el_112 rfl (evsC (E rfl rfl) evs0) nB rfl rfl ?_
 refine Y1 (Yv.buildS (cs := [.v (.int .i64 (35)), .v (.int .i64 (4)), .v (.int .i64 (0)), .v (.bool false), .v (.int .i64 (0)), .sl 1 [.v (.int .i64 233)], .v (.int .i64 (-1)), .v (.int .i64 (0)), .v (.int .i64 (0)), .v (.int .i64 (0)), .v (.int .i64 (0)), .v (.int .i64 (6))]) rfl sh_114 (evpC eV (evpC eV (evpC eV (evpC eV (evpC eV evp0))))) (fun _ => by kernel_rfl)) ?_
 refine AWL.buildSlice1 rfl rfl (B rfl) rfl el_112 rfl (evsC (E rfl rfl) evs0) nB rfl rfl ?_
 refine Y1 (Yv.buildS (cs := [.v (.int .i64 (36)), .v (.int .i64 (1)), .v (.int .i64 (0)), .v (.bool false), .v (.int .i64 (0)), .sl 1 [.v (.int .i64 112)], .v (.int .i64 (-1)), .v (.int .i64 (0)), .v (.int .i64 (0)), .v (.int .i64 (0)), .v (.int .i64 (4)), .v (.int .i64 (5))]) rfl sh_114 (evpC eV (evpC eV (evpC eV (evpC eV (evpC eV (evpC eV evp0)))))) (fun _ => by kernel_rfl)) ?_
 refine AWL.buildSlice1 rfl rfl (B rfl) rfl el_112 rfl (evsC (E rfl rfl) (evsC (E rfl rfl) evs0)) nB rfl rfl ?_
 refine Y1 (Yv.buildS (cs := [.v (.int .i64 (36)), .v (.int .i64 (4)), .v (.int .i64 (0)), .v (.bool false), .v (.int .i64 (0)), .sl 1 [.v (.int .i64 15), .v (.int .i64 128)], .v (.int .i64 (-1)), .v (.int .i64 (0)), .v (.int .i64 (0)), .v (.int .i64 (0)), .v (.int .i64 (4)), .v (.int .i64 (6))]) rfl sh_114 (evpC eV (evpC eV (evpC eV (evpC eV (evpC eV (evpC eV evp0)))))) (fun _ => by kernel_rfl)) ?_
 refine AWL.buildSlice1 rfl rfl (B rfl) rfl el_112 rfl (evsC (E rfl rfl) evs0) nB rfl rfl ?_
 refine Y1 (Yv.buildS (cs := [.v (.int .i64 (37)), .v (.int .i64 (0)), .v (.int .i64 (0)), .v (.bool false), .v (.int .i64 (0)), .sl 1 [.v (.int .i64 232)], .v (.int .i64 (-1)), .v (.int .i64 (0)), .v (.int .i64 (0)), .v (.int .i64 (0)), .v (.int .i64 (0)), .v (.int .i64 (6))]) rfl sh_114 (evpC eV (evpC eV (evpC eV (evpC eV evp0)))) (fun _ => by kernel_rfl)) ?_
 refine AWL.buildSlice1 rfl rfl (B rfl) rfl el_112 rfl (evsC (E rfl rfl) evs0) nB rfl rfl ?_
 refine Y1 (Yv.buildS (cs := [.v (.int .i64 (38)), .v (.int .i64 (0)), .v (.int .i64 (0)), .v (.bool true), .v (.int .i64 (0)), .sl 1 [.v (.int .i64 255)], .v (.int .i64 (3)), .v (.int .i64 (2)), .v (.int .i64 (2)), .v (.int .i64 (0)), .v (.int .i64 (0)), .v (.int .i64 (0))]) rfl sh_114 (evpC eV (evpC eV (evpC eV (evpC eV (evpC eV (evpC eV evp0)))))) (fun _ => by kernel_rfl)) ?_
 refine AWL.buildSlice1 rfl rfl (B rfl) rfl el_112 rfl (evsC (E rfl rfl) evs0) nB rfl rfl ?_
 refine Y1 (Yv.buildS (cs := [.v (.int .i64 (39)), .v (.int .i64 (0)), .v (.int .i64 (0)), .v (.bool true), .v (.int .i64 (0)), .sl 1 [.v (.int .i64 255)], .v (.int .i64 (3)), .v (.int .i64 (4)), .v (.int .i64 (2)), .v (.int .i64 (0)), .v (.int .i64 (0)), .v (.int .i64 (0))]) rfl sh_114 (evpC eV (evpC eV (evpC eV (evpC eV (evpC eV (evpC eV evp0)))))) (fun _ => by kernel_rfl)) ?_
 refine AWL.buildSlice1 rfl rfl (B rfl) rfl el_112 rfl (evsC (E rfl rfl) evs0) nB rfl rfl ?_
 refine Y1 (Yv.buildS (cs := [.v (.int .i64 (40)), .v (.int .i64 (0)), .v (.int .i64 (0)), .v (.bool false), .v (.int .i64 (0)), .sl 1 [.v (.int .i64 195)], .v (.int .i64 (-1)), .v (.int .i64 (0)), .v (.int .i64 (0)), .v (.int .i64 (0)), .v (.int .i64 (0)), .v (.int .i64 (0))]) rfl sh_114 (evpC eV (evpC eV (evpC eV evp0))) (fun _ => by kernel_rfl)) ?_
 refine AWL.buildSlice1 rfl rfl (B rfl) rfl el_112 rfl (evsC (E rfl rfl) evs0) nB rfl rfl ?_
 refine Y1 (Yv.buildS (cs := [.v (.int .i64 (41)), .v (.int .i64 (0)), .v (.int .i64 (0)), .v (.bool true), .v (.int .i64 (0)), .sl 1 [.v (.int .i64 80)], .v (.int .i64 (-1)), .v (.int .i64 (0)), .v (.int .i64 (3)), .v (.int .i64 (0)), .v (.int .i64 (0)), .v (.int .i64 (0))]) rfl sh_114 (evpC eV (evpC eV (evpC eV (evpC eV (evpC eV evp0))))) (fun _ => by kernel_rfl)) ?_
 refine AWL.buildSlice1 rfl rfl (B rfl) rfl el_112 rfl (evsC (E rfl rfl) evs0) nB rfl rfl ?_
 refine Y1 (Yv.buildS (cs := [.v (.int .i64 (42)), .v (.int .i64 (0)), .v (.int .i64 (0)), .v (.bool true), .v (.int .i64 (0)), .sl 1 [.v (.int .i64 88)], .v (.int .i64 (-1)), .v (.int .i64 (0)), .v (.int .i64 (3)), .v (.int .i64 (0)), .v (.int .i64 (0)), .v (.int .i64 (0))]) rfl sh_114 (evpC eV (evpC eV (evpC eV (evpC eV (evpC eV evp0))))) (fun _ => by kernel_rfl)) ?_
 refine AWL.buildSlice1 rfl rfl (B rfl) rfl el_112 rfl (evsC (E rfl rfl) (evsC (E rfl rfl) evs0)) nB rfl rfl ?_
 refine Y1 (Yv.buildS (cs := [.v (.int .i64 (43)), .v (.int .i64 (0)), .v (.int .i64 (0)), .v (.bool false), .v (.int .i64 (0)), .sl 1 [.v (.int .i64 15), .v (.int .i64 5)], .v (.int .i64 (-1)), .v (.int .i64 (0)), .v (.int .i64 (0)), .v (.int .i64 (0)), .v (.int .i64 (0)), .v (.int .i64 (0))]) rfl sh_114 (evpC eV (evpC eV (evpC eV evp0))) (fun _ => by kernel_rfl)) ?_
 refine AWL.buildSlice1 rfl rfl (B rfl) rfl el_112 rfl (evsC (E rfl rfl) (evsC (E rfl rfl) evs0)) nB rfl rfl ?_
 refine Y1 (Yv.buildS (cs := [.v (.int .i64 (44)), .v (.int .i64 (0)), .v (.int .i64 (0)), .v (.bool false), .v (.int .i64 (0)), .sl 1 [.v (.int .i64 15), .v (.int .i64 11)], .v (.int .i64 (-1)), .v (.int .i64 (0)), .v (.int .i64 (0)), .v (.int .i64 (0)), .v (.int .i64 (0)), .v (.int .i64 (0))]) rfl sh_114 (evpC eV (evpC eV (evpC eV evp0))) (fun _ => by kernel_rfl)) ?_
 refine AWL.callT rfl rfl (B rfl) rfl ce_48 (E rfl rfl) (evsC (E rfl rfl) (evsC (E rfl rfl) (evsC (E rfl rfl) (evsC (E rfl rfl) (evsC (E rfl rfl) (evsC (E rfl rfl) evs0)))))) (real59 _ _ _ _ _ _) ?_
 rintro t86 S86 rfl
 refine AWL.callT rfl rfl (B rfl) rfl ce_48 (E rfl rfl) (evsC (E rfl rfl) (evsC (E rfl rfl) (evsC (E rfl rfl) (evsC (E rfl rfl) (evsC (E rfl rfl) (evsC (E rfl rfl) evs0)))))) (real59 _ _ _ _ _ _) ?_
 rintro t87 S87 rfl
 refine AWL.callT rfl rfl (B rfl) rfl ce_48 (E rfl rfl) (evsC (E rfl rfl) (evsC (E rfl rfl) (evsC (E rfl rfl) (evsC (E rfl rfl) (evsC (E rfl rfl) (evsC (E rfl rfl) evs0)))))) (real59 _ _ _ _ _ _) ?_
 rintro t88 S88 rfl
 refine AWL.callT rfl rfl (B rfl) rfl ce_48 (E rfl rfl) (evsC (E rfl rfl) (evsC (E rfl rfl) (evsC (E rfl rfl) (evsC (E rfl rfl) (evsC (E rfl rfl) (evsC (E rfl rfl) evs0)))))) (real59 _ _ _ _ _ _) ?_
 rintro t89 S89 rfl
 refine AWL.callT rfl rfl (B rfl) rfl ce_48 (E rfl rfl) (evsC (E rfl rfl) (evsC (E rfl rfl) (evsC (E rfl rfl) (evsC (E rfl rfl) (evsC (E rfl rfl) (evsC (E rfl rfl) evs0)))))) (real59 _ _ _ _ _ _) ?_
 rintro t90 S90 rfl
 refine AWL.callT rfl rfl (B rfl) rfl ce_48 (E rfl rfl) (evsC (E rfl rfl) (evsC (E rfl rfl) (evsC (E rfl rfl) (evsC (E rfl rfl) (evsC (E rfl rfl) (evsC (E rfl rfl) evs0)))))) (real59 _ _ _ _ _ _) ?_
 rintro t91 S91 rfl
 refine AWL.callT rfl rfl (B rfl) rfl ce_48 (E rfl rfl) (evsC (E rfl rfl) (evsC (E rfl rfl) (evsC (E rfl rfl) (evsC (E rfl rfl) (evsC (E rfl rfl) (evsC (E rfl rfl) evs0)))))) (real59 _ _ _ _ _ _) ?_
 rintro t92 S92 rfl
 refine AWL.callT rfl rfl (B rfl) rfl ce_48 (E rfl rfl) (evsC (E rfl rfl) (evsC (E rfl rfl) (evsC (E rfl rfl) (evsC (E rfl rfl) (evsC (E rfl rfl) (evsC (E rfl rfl) evs0)))))) (real59 _ _ _ _ _ _) ?_
 rintro t93 S93 rfl
 refine AWL.buildSliceE rfl rfl (B rfl) rfl el_110 (B rfl) rfl (evsC (E rfl rfl) (evsC (E rfl rfl) (evsC (E rfl rfl) (evsC (E rfl rfl) (evsC (E rfl rfl) (evsC (E rfl rfl) (evsC (E rfl rfl) (evsC (E rfl rfl) (evsC (E rfl rfl) (evsC (E rfl rfl) (evsC (E rfl rfl) (evsC (E rfl rfl) (evsC (E rfl rfl) (evsC (E rfl rfl) (evsC (E rfl rfl) (evsC (E rfl rfl) (evsC (E rfl rfl) (evsC (E rfl rfl) (evsC (E rfl rfl) (evsC (E rfl rfl) (evsC (E rfl rfl) (evsC (E rfl rfl) (evsC (E rfl rfl) (evsC (E rfl rfl) (evsC (E rfl rfl) (evsC (E rfl rfl) (evsC (E rfl rfl) (evsC (E rfl rfl) (evsC (E rfl rfl) (evsC (E rfl rfl) (evsC (E rfl rfl) (evsC (E rfl rfl) (evsC (E rfl rfl) (evsC (E rfl rfl) (evsC (E rfl rfl) (evsC (E rfl rfl) (evsC (E rfl rfl) (evsC (E rfl rfl) (evsC (E rfl rfl) (evsC (E rfl rfl) (evsC (E rfl rfl) (evsC (E rfl rfl) (evsC (E rfl rfl) (evsC (E rfl rfl) (evsC (E rfl rfl) (evsC (E rfl rfl) (evsC (E rfl rfl) (evsC (E rfl rfl) (evsC (E rfl rfl) (evsC (E rfl rfl) (evsC (E rfl rfl) (evsC (E rfl rfl) (evsC (E rfl rfl) (evsC (E rfl rfl) (evsC (E rfl rfl) (evsC (E rfl rfl) (evsC (E rfl rfl) (evsC (E rfl rfl) (evsC (E rfl rfl) evs0))))))))))))))))))))))))))))))))))))))))))))))))))))))))))) nB rfl rfl ?_
 refine ya ?_
 refine AW.ret (retI (.tmp rfl .nil) ?_)
 rfl

end Go.Proofs.YtecpjlhbkmongaaGreat
