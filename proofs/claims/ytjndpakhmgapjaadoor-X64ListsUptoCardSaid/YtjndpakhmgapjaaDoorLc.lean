/-
  TEXTS JOINED: Wk4, Asm, Form, Wk13, Wk14, Res, Jmp.
-/
import Derived.Test.YtjndpakhmgapjaaDoorLb
set_option linter.unusedSimpArgs false
set_option linter.unusedVariables false
set_option linter.unusedSectionVars false
set_option linter.unnecessarySimpa false
namespace Go.Proofs.YtjndpakhmgapjaaDoor
open Go Go.RowKit
set_option linter.unusedVariables false
set_option linter.unnecessarySimpa false
set_option linter.unusedSimpArgs false

set_option maxRecDepth 2000 in
set_option maxHeartbeats 4000000 in
theorem encode19R (i : Ins) :
    ACalls Tryd.prog 11 [insT i] [] fun t_ S => if validF i = true then (∃ (A' : Option Addr) (r : List UInt8), t_ = .tup [.v (.slice A' (encF i).length ((encF i).length + r.length)), .v (.int .i64 0)] ∧ S = [Ent.row A' ((encF i).length + r.length) ((encF i).length + r.length) 5 1 ((encF i ++ r).map u8)]) else t_ = .tup [ofConst (.slice none 0 0), .v (.int .i64 200)] := by
  obtain ⟨r1, r2, r3⟩ := or_reg i.d
  refine ACalls.intro Tryd.func11 rfl Tryd.ntmps11 (Nat.le_of_ble_eq_true rfl) rfl fun X w0 => ?_
  refine AW.rseq ?_
  refine AWL.boxOp rfl rfl (B rfl) rfl (E rfl rfl) rfl (fun b1 => ?_)
  refine Y1 (Yv.assign rfl eV) ?_
  refine Y1 (Yv.assign rfl eV) ?_
  refine nl ?_
  refine AW.seq ?_
  refine AW.rseq ?_
  refine Y1 (Yv.loadBoxA rfl ag_23 (i := 0) rfl (E rfl rfl) rfl rfl) ?_
  refine AWL.callP rfl rfl (B rfl) rfl ce_12 (E rfl rfl) (evsC (E rfl rfl) evs0) (valid27 i) (fun t S h => h) ?_
  refine Y1 (Yv.not rfl eV) ?_
  refine nl ?_
  refine AW.cond rfl (fun h0t => ?_) (fun h0f => ?_)
  ·
   try replace h0t := of_decide_eq_true h0t
   have hval : ¬ validF i = true := by simpa using h0t
   refine AW.rseq ?_
   refine Y1 (Yv.assign rfl eV) ?_
   refine Y1 (Yv.assign rfl eV) ?_
   refine nl ?_
   refine AW.ret (retI (.tmp rfl (.tmp rfl .nil)) ?_)
   rw [if_neg hval]
   rfl
  try replace h0f := of_decide_eq_false h0f
  have hval : validF i = true := by simpa using h0f
  obtain ⟨hkk, hd, hs, hc⟩ := validF_regs hval
  refine AW.skip ?_
  refine AW.rseq ?_
  refine Y1 (Yv.buildS rfl sh_49 evp0 (fun _ => rfl)) ?_
  refine AWL.boxOp rfl rfl (B rfl) rfl (E rfl rfl) rfl (fun b11 => ?_)
  refine Y1 (Yv.assign rfl eV) ?_
  refine nl ?_
  refine AW.rowNil 5 1 ?_
  refine AW.perm (S' := CB b11 none [] [] ++ [.box b1 23 (insCells i)]) (List.reverse_perm [_, _, _]) ?_
  refine AW.rseq ?_
  refine Y1 (Yv.fieldBox rfl fo_23_0 eV) ?_
  refine Y1 (Yv.loadBox rfl ag_3 (i := 2) rfl (E rfl rfl) rfl) ?_
  refine AWL.callT rfl rfl (B rfl) rfl ce_26 (E rfl rfl) (evsC (E rfl rfl) evs0) (opcode33 i.kind) ?_
  rintro t15 S15 rfl
  refine Y1 (Yv.move rfl eV) ?_
  refine Y1 (Yv.extract rfl eV rfl) ?_
  refine Y1 (Yv.extract rfl eV rfl) ?_
  refine Y1 (Yv.assign rfl eV) ?_
  refine Y1 (Yv.assign rfl eV) ?_
  refine nl ?_
  refine AW.seq ?_
  refine AW.rseq ?_
  refine Y1 (Yv.fieldBox rfl fo_23_0 eV) ?_
  refine Y1 (Yv.loadBox rfl ag_3 (i := 2) rfl (E rfl rfl) rfl) ?_
  refine nl ?_
  refine AW.block ?_
  refine AW.seq ?_
  refine AW.rseq ?_
  refine Y1 (Yv.eql rfl eV eV) ?_
  refine Y1 (Yv.assign rfl eV) ?_
  refine nl ?_
  refine AW.cond rfl (fun h1t => ?_) (fun h1f => ?_)
  ·
   try replace h1t := of_decide_eq_true h1t
   refine AW.skip ?_
   refine AW.cond rfl (fun h2t => ?_) (fun h2f => ?_)
   ·
    try replace h2t := of_decide_eq_true h2t
    refine AW.regionH (HeldBox b1 (insVals i)) rfl (tells_box (k := 2) rfl) ?_
    refine AWH.tk (i := 0) rfl rfl rfl (B rfl) (heldAll (freeMove rfl (E rfl rfl))) ?_
    refine AWH.tk (i := 1) rfl rfl rfl (B rfl) (heldAll (freeField rfl fo_23_2 (E rfl rfl))) ?_
    refine AWH.tk (i := 2) rfl rfl rfl (B rfl) (heldLoad rfl ag_3 (E rfl rfl) rfl) ?_
    refine AWH.tk (i := 3) rfl rfl rfl (B rfl) (heldAll (freeField rfl fo_23_1 (E rfl rfl))) ?_
    refine AWH.tk (i := 4) rfl rfl rfl (B rfl) (heldLoad rfl ag_3 (E rfl rfl) rfl) ?_
    refine AWH.tk (i := 6) rfl rfl rfl (B rfl) (heldAll (freeMove rfl (E rfl rfl))) ?_
    refine AWH.tk (i := 9) rfl rfl rfl (B rfl) (heldAll (freeField rfl fo_23_2 (E rfl rfl))) ?_
    refine AWH.tk (i := 10) rfl rfl rfl (B rfl) (heldLoad rfl ag_3 (E rfl rfl) rfl) ?_
    refine AWH.tk (i := 11) rfl rfl rfl (B rfl) (heldAll (freeField rfl fo_23_1 (E rfl rfl))) ?_
    refine AWH.tk (i := 12) rfl rfl rfl (B rfl) (heldLoad rfl ag_3 (E rfl rfl) rfl) ?_
    refine AWH.two (i := 5) (j := 7) (by kernel_rfl) rfl rfl ?_ ?_
    ·
     refine C1 rfl ce_27 (E rfl rfl) (evsC (E rfl rfl) (evsC (E rfl rfl) (evsC (E rfl rfl) (evsC (E rfl rfl) evs0)))) (S1 := CB _ _ _ _) (S2 := [_]) rfl (rex34 _ _ _ _ _ _ _) ?_
     rintro t39 S39 ⟨rfl, A39, c39, rfl⟩
     refine tb 2 rfl ?_
     refine AWH.one (i := 7) (by kernel_rfl) rfl ?_
     refine AWL.buildSlice1 rfl rfl (B rfl) rfl el_43 rfl (evsC (E rfl rfl) evs0) (Nat.le_of_ble_eq_true rfl) rfl rfl ?_
     refine tb 2 rfl ?_
     refine AWH.one (i := 8) (by kernel_rfl) rfl ?_
     refine C1 rfl ce_28 (E rfl rfl) (evsC (E rfl rfl) (evsC (E rfl rfl) evs0)) (S1 := CB _ _ _ _) (S2 := [_]) rfl (put35 _ _ _ _ [_]) ?_
     rintro t42 S42 ⟨rfl, A42, c42, rfl⟩
     refine tb 2 rfl ?_
     refine AWH.one (i := 13) (by kernel_rfl) rfl ?_
     refine C1 rfl ce_29 (E rfl rfl) (evsC (E rfl rfl) (evsC (E rfl rfl) (evsC (E rfl rfl) evs0))) (S1 := CB _ _ _ _) (S2 := [_]) rfl (two36 _ _ _ _ _ _) ?_
     rintro t47 S47 ⟨rfl, A47, c47, rfl⟩
     refine tb 2 rfl ?_
     refine AWH.done (by kernel_rfl) ?_
     refine AW.rseq ?_
     refine Y1 (Yv.move rfl eV) ?_
     refine Y1 (Yv.nilChk rfl eV) ?_
     refine Y1 (Yv.fieldBox rfl fo_49_0 eV) ?_
     refine Y1 (Yv.loadBox rfl ag_24 (i := 1) rfl (E rfl rfl) rfl) ?_
     refine Y1 (Yv.assign rfl eV) ?_
     refine Y1 (Yv.assign rfl eV) ?_
     refine nl ?_
     refine AW.drop (List.take_sublist 1 _) ?_
     refine AW.ret (retI (.tmp rfl (.tmp rfl .nil)) ?_)
     rw [if_pos hval]
     refine enc_end ?_
     rw [enc0 (by rw [h1t]; rfl)]
     skip
     try simp only [List.append_assoc]
     rfl
    ·
     refine AWL.buildSlice1 rfl rfl (B rfl) rfl el_43 rfl (evsC (E rfl rfl) evs0) (Nat.le_of_ble_eq_true rfl) rfl rfl ?_
     refine tb 2 rfl ?_
     refine AWH.one (i := 5) (by kernel_rfl) rfl ?_
     refine C1 rfl ce_27 (E rfl rfl) (evsC (E rfl rfl) (evsC (E rfl rfl) (evsC (E rfl rfl) (evsC (E rfl rfl) evs0)))) (S1 := CB _ _ _ _) (S2 := [_]) rfl (rex34 _ _ _ _ _ _ _) ?_
     rintro t39 S39 ⟨rfl, A39, c39, rfl⟩
     refine tb 2 rfl ?_
     refine AWH.one (i := 8) (by kernel_rfl) rfl ?_
     refine C1 rfl ce_28 (E rfl rfl) (evsC (E rfl rfl) (evsC (E rfl rfl) evs0)) (S1 := CB _ _ _ _) (S2 := [_]) rfl (put35 _ _ _ _ [_]) ?_
     rintro t42 S42 ⟨rfl, A42, c42, rfl⟩
     refine tb 2 rfl ?_
     refine AWH.one (i := 13) (by kernel_rfl) rfl ?_
     refine C1 rfl ce_29 (E rfl rfl) (evsC (E rfl rfl) (evsC (E rfl rfl) (evsC (E rfl rfl) evs0))) (S1 := CB _ _ _ _) (S2 := [_]) rfl (two36 _ _ _ _ _ _) ?_
     rintro t47 S47 ⟨rfl, A47, c47, rfl⟩
     refine tb 2 rfl ?_
     refine AWH.done (by kernel_rfl) ?_
     refine AW.rseq ?_
     refine Y1 (Yv.move rfl eV) ?_
     refine Y1 (Yv.nilChk rfl eV) ?_
     refine Y1 (Yv.fieldBox rfl fo_49_0 eV) ?_
     refine Y1 (Yv.loadBox rfl ag_24 (i := 1) rfl (E rfl rfl) rfl) ?_
     refine Y1 (Yv.assign rfl eV) ?_
     refine Y1 (Yv.assign rfl eV) ?_
     refine nl ?_
     refine AW.drop (List.take_sublist 1 _) ?_
     refine AW.ret (retI (.tmp rfl (.tmp rfl .nil)) ?_)
     rw [if_pos hval]
     refine enc_end ?_
     rw [enc0 (by rw [h1t]; rfl)]
     skip
     try simp only [List.append_assoc]
     rfl
   · exfalso; replace h2f := of_decide_eq_false h2f; omega
  try replace h1f := of_decide_eq_false h1f
  refine AW.rseq ?_
  refine Y1 (Yv.eql rfl eV eV) ?_
  refine Y1 (Yv.assign rfl eV) ?_
  refine nl ?_
  refine AW.cond rfl (fun h3t => ?_) (fun h3f => ?_)
  ·
   try replace h3t := of_decide_eq_true h3t
   refine AW.skip ?_
   refine AW.cond rfl (fun h4t => ?_) (fun h4f => ?_)
   ·
    try replace h4t := of_decide_eq_true h4t
    refine AW.regionH (HeldBox b1 (insVals i)) rfl (tells_box (k := 2) rfl) ?_
    refine AWH.tk (i := 0) rfl rfl rfl (B rfl) (heldAll (freeMove rfl (E rfl rfl))) ?_
    refine AWH.tk (i := 1) rfl rfl rfl (B rfl) (heldAll (freeField rfl fo_23_2 (E rfl rfl))) ?_
    refine AWH.tk (i := 2) rfl rfl rfl (B rfl) (heldLoad rfl ag_3 (E rfl rfl) rfl) ?_
    refine AWH.tk (i := 3) rfl rfl rfl (B rfl) (heldAll (freeField rfl fo_23_1 (E rfl rfl))) ?_
    refine AWH.tk (i := 4) rfl rfl rfl (B rfl) (heldLoad rfl ag_3 (E rfl rfl) rfl) ?_
    refine AWH.tk (i := 6) rfl rfl rfl (B rfl) (heldAll (freeMove rfl (E rfl rfl))) ?_
    refine AWH.tk (i := 9) rfl rfl rfl (B rfl) (heldAll (freeField rfl fo_23_2 (E rfl rfl))) ?_
    refine AWH.tk (i := 10) rfl rfl rfl (B rfl) (heldLoad rfl ag_3 (E rfl rfl) rfl) ?_
    refine AWH.tk (i := 11) rfl rfl rfl (B rfl) (heldAll (freeField rfl fo_23_1 (E rfl rfl))) ?_
    refine AWH.tk (i := 12) rfl rfl rfl (B rfl) (heldLoad rfl ag_3 (E rfl rfl) rfl) ?_
    refine AWH.two (i := 5) (j := 7) (by kernel_rfl) rfl rfl ?_ ?_
    ·
     refine C1 rfl ce_27 (E rfl rfl) (evsC (E rfl rfl) (evsC (E rfl rfl) (evsC (E rfl rfl) (evsC (E rfl rfl) evs0)))) (S1 := CB _ _ _ _) (S2 := [_]) rfl (rex34 _ _ _ _ _ _ _) ?_
     rintro t39 S39 ⟨rfl, A39, c39, rfl⟩
     refine tb 2 rfl ?_
     refine AWH.one (i := 7) (by kernel_rfl) rfl ?_
     refine AWL.buildSlice1 rfl rfl (B rfl) rfl el_43 rfl (evsC (E rfl rfl) evs0) (Nat.le_of_ble_eq_true rfl) rfl rfl ?_
     refine tb 2 rfl ?_
     refine AWH.one (i := 8) (by kernel_rfl) rfl ?_
     refine C1 rfl ce_28 (E rfl rfl) (evsC (E rfl rfl) (evsC (E rfl rfl) evs0)) (S1 := CB _ _ _ _) (S2 := [_]) rfl (put35 _ _ _ _ [_]) ?_
     rintro t42 S42 ⟨rfl, A42, c42, rfl⟩
     refine tb 2 rfl ?_
     refine AWH.one (i := 13) (by kernel_rfl) rfl ?_
     refine C1 rfl ce_29 (E rfl rfl) (evsC (E rfl rfl) (evsC (E rfl rfl) (evsC (E rfl rfl) evs0))) (S1 := CB _ _ _ _) (S2 := [_]) rfl (two36 _ _ _ _ _ _) ?_
     rintro t47 S47 ⟨rfl, A47, c47, rfl⟩
     refine tb 2 rfl ?_
     refine AWH.done (by kernel_rfl) ?_
     refine AW.rseq ?_
     refine Y1 (Yv.move rfl eV) ?_
     refine Y1 (Yv.nilChk rfl eV) ?_
     refine Y1 (Yv.fieldBox rfl fo_49_0 eV) ?_
     refine Y1 (Yv.loadBox rfl ag_24 (i := 1) rfl (E rfl rfl) rfl) ?_
     refine Y1 (Yv.assign rfl eV) ?_
     refine Y1 (Yv.assign rfl eV) ?_
     refine nl ?_
     refine AW.drop (List.take_sublist 1 _) ?_
     refine AW.ret (retI (.tmp rfl (.tmp rfl .nil)) ?_)
     rw [if_pos hval]
     refine enc_end ?_
     rw [enc0 (by rw [h3t]; rfl)]
     skip
     try simp only [List.append_assoc]
     rfl
    ·
     refine AWL.buildSlice1 rfl rfl (B rfl) rfl el_43 rfl (evsC (E rfl rfl) evs0) (Nat.le_of_ble_eq_true rfl) rfl rfl ?_
     refine tb 2 rfl ?_
     refine AWH.one (i := 5) (by kernel_rfl) rfl ?_
     refine C1 rfl ce_27 (E rfl rfl) (evsC (E rfl rfl) (evsC (E rfl rfl) (evsC (E rfl rfl) (evsC (E rfl rfl) evs0)))) (S1 := CB _ _ _ _) (S2 := [_]) rfl (rex34 _ _ _ _ _ _ _) ?_
     rintro t39 S39 ⟨rfl, A39, c39, rfl⟩
     refine tb 2 rfl ?_
     refine AWH.one (i := 8) (by kernel_rfl) rfl ?_
     refine C1 rfl ce_28 (E rfl rfl) (evsC (E rfl rfl) (evsC (E rfl rfl) evs0)) (S1 := CB _ _ _ _) (S2 := [_]) rfl (put35 _ _ _ _ [_]) ?_
     rintro t42 S42 ⟨rfl, A42, c42, rfl⟩
     refine tb 2 rfl ?_
     refine AWH.one (i := 13) (by kernel_rfl) rfl ?_
     refine C1 rfl ce_29 (E rfl rfl) (evsC (E rfl rfl) (evsC (E rfl rfl) (evsC (E rfl rfl) evs0))) (S1 := CB _ _ _ _) (S2 := [_]) rfl (two36 _ _ _ _ _ _) ?_
     rintro t47 S47 ⟨rfl, A47, c47, rfl⟩
     refine tb 2 rfl ?_
     refine AWH.done (by kernel_rfl) ?_
     refine AW.rseq ?_
     refine Y1 (Yv.move rfl eV) ?_
     refine Y1 (Yv.nilChk rfl eV) ?_
     refine Y1 (Yv.fieldBox rfl fo_49_0 eV) ?_
     refine Y1 (Yv.loadBox rfl ag_24 (i := 1) rfl (E rfl rfl) rfl) ?_
     refine Y1 (Yv.assign rfl eV) ?_
     refine Y1 (Yv.assign rfl eV) ?_
     refine nl ?_
     refine AW.drop (List.take_sublist 1 _) ?_
     refine AW.ret (retI (.tmp rfl (.tmp rfl .nil)) ?_)
     rw [if_pos hval]
     refine enc_end ?_
     rw [enc0 (by rw [h3t]; rfl)]
     skip
     try simp only [List.append_assoc]
     rfl
   · exfalso; replace h4f := of_decide_eq_false h4f; omega
  try replace h3f := of_decide_eq_false h3f
  refine AW.rseq ?_
  refine Y1 (Yv.eql rfl eV eV) ?_
  refine Y1 (Yv.assign rfl eV) ?_
  refine nl ?_
  refine AW.cond rfl (fun h5t => ?_) (fun h5f => ?_)
  ·
   try replace h5t := of_decide_eq_true h5t
   refine AW.skip ?_
   refine AW.cond rfl (fun h6t => ?_) (fun h6f => ?_)
   ·
    try replace h6t := of_decide_eq_true h6t
    refine AW.regionH (HeldBox b1 (insVals i)) rfl (tells_box (k := 2) rfl) ?_
    refine AWH.tk (i := 0) rfl rfl rfl (B rfl) (heldAll (freeMove rfl (E rfl rfl))) ?_
    refine AWH.tk (i := 1) rfl rfl rfl (B rfl) (heldAll (freeField rfl fo_23_2 (E rfl rfl))) ?_
    refine AWH.tk (i := 2) rfl rfl rfl (B rfl) (heldLoad rfl ag_3 (E rfl rfl) rfl) ?_
    refine AWH.tk (i := 3) rfl rfl rfl (B rfl) (heldAll (freeField rfl fo_23_1 (E rfl rfl))) ?_
    refine AWH.tk (i := 4) rfl rfl rfl (B rfl) (heldLoad rfl ag_3 (E rfl rfl) rfl) ?_
    refine AWH.tk (i := 6) rfl rfl rfl (B rfl) (heldAll (freeMove rfl (E rfl rfl))) ?_
    refine AWH.tk (i := 9) rfl rfl rfl (B rfl) (heldAll (freeField rfl fo_23_2 (E rfl rfl))) ?_
    refine AWH.tk (i := 10) rfl rfl rfl (B rfl) (heldLoad rfl ag_3 (E rfl rfl) rfl) ?_
    refine AWH.tk (i := 11) rfl rfl rfl (B rfl) (heldAll (freeField rfl fo_23_1 (E rfl rfl))) ?_
    refine AWH.tk (i := 12) rfl rfl rfl (B rfl) (heldLoad rfl ag_3 (E rfl rfl) rfl) ?_
    refine AWH.two (i := 5) (j := 7) (by kernel_rfl) rfl rfl ?_ ?_
    ·
     refine C1 rfl ce_27 (E rfl rfl) (evsC (E rfl rfl) (evsC (E rfl rfl) (evsC (E rfl rfl) (evsC (E rfl rfl) evs0)))) (S1 := CB _ _ _ _) (S2 := [_]) rfl (rex34 _ _ _ _ _ _ _) ?_
     rintro t39 S39 ⟨rfl, A39, c39, rfl⟩
     refine tb 2 rfl ?_
     refine AWH.one (i := 7) (by kernel_rfl) rfl ?_
     refine AWL.buildSlice1 rfl rfl (B rfl) rfl el_43 rfl (evsC (E rfl rfl) evs0) (Nat.le_of_ble_eq_true rfl) rfl rfl ?_
     refine tb 2 rfl ?_
     refine AWH.one (i := 8) (by kernel_rfl) rfl ?_
     refine C1 rfl ce_28 (E rfl rfl) (evsC (E rfl rfl) (evsC (E rfl rfl) evs0)) (S1 := CB _ _ _ _) (S2 := [_]) rfl (put35 _ _ _ _ [_]) ?_
     rintro t42 S42 ⟨rfl, A42, c42, rfl⟩
     refine tb 2 rfl ?_
     refine AWH.one (i := 13) (by kernel_rfl) rfl ?_
     refine C1 rfl ce_29 (E rfl rfl) (evsC (E rfl rfl) (evsC (E rfl rfl) (evsC (E rfl rfl) evs0))) (S1 := CB _ _ _ _) (S2 := [_]) rfl (two36 _ _ _ _ _ _) ?_
     rintro t47 S47 ⟨rfl, A47, c47, rfl⟩
     refine tb 2 rfl ?_
     refine AWH.done (by kernel_rfl) ?_
     refine AW.rseq ?_
     refine Y1 (Yv.move rfl eV) ?_
     refine Y1 (Yv.nilChk rfl eV) ?_
     refine Y1 (Yv.fieldBox rfl fo_49_0 eV) ?_
     refine Y1 (Yv.loadBox rfl ag_24 (i := 1) rfl (E rfl rfl) rfl) ?_
     refine Y1 (Yv.assign rfl eV) ?_
     refine Y1 (Yv.assign rfl eV) ?_
     refine nl ?_
     refine AW.drop (List.take_sublist 1 _) ?_
     refine AW.ret (retI (.tmp rfl (.tmp rfl .nil)) ?_)
     rw [if_pos hval]
     refine enc_end ?_
     rw [enc0 (by rw [h5t]; rfl)]
     skip
     try simp only [List.append_assoc]
     rfl
    ·
     refine AWL.buildSlice1 rfl rfl (B rfl) rfl el_43 rfl (evsC (E rfl rfl) evs0) (Nat.le_of_ble_eq_true rfl) rfl rfl ?_
     refine tb 2 rfl ?_
     refine AWH.one (i := 5) (by kernel_rfl) rfl ?_
     refine C1 rfl ce_27 (E rfl rfl) (evsC (E rfl rfl) (evsC (E rfl rfl) (evsC (E rfl rfl) (evsC (E rfl rfl) evs0)))) (S1 := CB _ _ _ _) (S2 := [_]) rfl (rex34 _ _ _ _ _ _ _) ?_
     rintro t39 S39 ⟨rfl, A39, c39, rfl⟩
     refine tb 2 rfl ?_
     refine AWH.one (i := 8) (by kernel_rfl) rfl ?_
     refine C1 rfl ce_28 (E rfl rfl) (evsC (E rfl rfl) (evsC (E rfl rfl) evs0)) (S1 := CB _ _ _ _) (S2 := [_]) rfl (put35 _ _ _ _ [_]) ?_
     rintro t42 S42 ⟨rfl, A42, c42, rfl⟩
     refine tb 2 rfl ?_
     refine AWH.one (i := 13) (by kernel_rfl) rfl ?_
     refine C1 rfl ce_29 (E rfl rfl) (evsC (E rfl rfl) (evsC (E rfl rfl) (evsC (E rfl rfl) evs0))) (S1 := CB _ _ _ _) (S2 := [_]) rfl (two36 _ _ _ _ _ _) ?_
     rintro t47 S47 ⟨rfl, A47, c47, rfl⟩
     refine tb 2 rfl ?_
     refine AWH.done (by kernel_rfl) ?_
     refine AW.rseq ?_
     refine Y1 (Yv.move rfl eV) ?_
     refine Y1 (Yv.nilChk rfl eV) ?_
     refine Y1 (Yv.fieldBox rfl fo_49_0 eV) ?_
     refine Y1 (Yv.loadBox rfl ag_24 (i := 1) rfl (E rfl rfl) rfl) ?_
     refine Y1 (Yv.assign rfl eV) ?_
     refine Y1 (Yv.assign rfl eV) ?_
     refine nl ?_
     refine AW.drop (List.take_sublist 1 _) ?_
     refine AW.ret (retI (.tmp rfl (.tmp rfl .nil)) ?_)
     rw [if_pos hval]
     refine enc_end ?_
     rw [enc0 (by rw [h5t]; rfl)]
     skip
     try simp only [List.append_assoc]
     rfl
   · exfalso; replace h6f := of_decide_eq_false h6f; omega
  try replace h5f := of_decide_eq_false h5f
  refine AW.rseq ?_
  refine Y1 (Yv.eql rfl eV eV) ?_
  refine Y1 (Yv.assign rfl eV) ?_
  refine nl ?_
  refine AW.cond rfl (fun h7t => ?_) (fun h7f => ?_)
  ·
   try replace h7t := of_decide_eq_true h7t
   refine AW.skip ?_
   refine AW.cond rfl (fun h8t => ?_) (fun h8f => ?_)
   ·
    try replace h8t := of_decide_eq_true h8t
    refine AW.regionH (HeldBox b1 (insVals i)) rfl (tells_box (k := 2) rfl) ?_
    refine AWH.tk (i := 0) rfl rfl rfl (B rfl) (heldAll (freeMove rfl (E rfl rfl))) ?_
    refine AWH.tk (i := 1) rfl rfl rfl (B rfl) (heldAll (freeField rfl fo_23_2 (E rfl rfl))) ?_
    refine AWH.tk (i := 2) rfl rfl rfl (B rfl) (heldLoad rfl ag_3 (E rfl rfl) rfl) ?_
    refine AWH.tk (i := 3) rfl rfl rfl (B rfl) (heldAll (freeField rfl fo_23_1 (E rfl rfl))) ?_
    refine AWH.tk (i := 4) rfl rfl rfl (B rfl) (heldLoad rfl ag_3 (E rfl rfl) rfl) ?_
    refine AWH.tk (i := 6) rfl rfl rfl (B rfl) (heldAll (freeMove rfl (E rfl rfl))) ?_
    refine AWH.tk (i := 9) rfl rfl rfl (B rfl) (heldAll (freeField rfl fo_23_2 (E rfl rfl))) ?_
    refine AWH.tk (i := 10) rfl rfl rfl (B rfl) (heldLoad rfl ag_3 (E rfl rfl) rfl) ?_
    refine AWH.tk (i := 11) rfl rfl rfl (B rfl) (heldAll (freeField rfl fo_23_1 (E rfl rfl))) ?_
    refine AWH.tk (i := 12) rfl rfl rfl (B rfl) (heldLoad rfl ag_3 (E rfl rfl) rfl) ?_
    refine AWH.two (i := 5) (j := 7) (by kernel_rfl) rfl rfl ?_ ?_
    ·
     refine C1 rfl ce_27 (E rfl rfl) (evsC (E rfl rfl) (evsC (E rfl rfl) (evsC (E rfl rfl) (evsC (E rfl rfl) evs0)))) (S1 := CB _ _ _ _) (S2 := [_]) rfl (rex34 _ _ _ _ _ _ _) ?_
     rintro t39 S39 ⟨rfl, A39, c39, rfl⟩
     refine tb 2 rfl ?_
     refine AWH.one (i := 7) (by kernel_rfl) rfl ?_
     refine AWL.buildSlice1 rfl rfl (B rfl) rfl el_43 rfl (evsC (E rfl rfl) evs0) (Nat.le_of_ble_eq_true rfl) rfl rfl ?_
     refine tb 2 rfl ?_
     refine AWH.one (i := 8) (by kernel_rfl) rfl ?_
     refine C1 rfl ce_28 (E rfl rfl) (evsC (E rfl rfl) (evsC (E rfl rfl) evs0)) (S1 := CB _ _ _ _) (S2 := [_]) rfl (put35 _ _ _ _ [_]) ?_
     rintro t42 S42 ⟨rfl, A42, c42, rfl⟩
     refine tb 2 rfl ?_
     refine AWH.one (i := 13) (by kernel_rfl) rfl ?_
     refine C1 rfl ce_29 (E rfl rfl) (evsC (E rfl rfl) (evsC (E rfl rfl) (evsC (E rfl rfl) evs0))) (S1 := CB _ _ _ _) (S2 := [_]) rfl (two36 _ _ _ _ _ _) ?_
     rintro t47 S47 ⟨rfl, A47, c47, rfl⟩
     refine tb 2 rfl ?_
     refine AWH.done (by kernel_rfl) ?_
     refine AW.rseq ?_
     refine Y1 (Yv.move rfl eV) ?_
     refine Y1 (Yv.nilChk rfl eV) ?_
     refine Y1 (Yv.fieldBox rfl fo_49_0 eV) ?_
     refine Y1 (Yv.loadBox rfl ag_24 (i := 1) rfl (E rfl rfl) rfl) ?_
     refine Y1 (Yv.assign rfl eV) ?_
     refine Y1 (Yv.assign rfl eV) ?_
     refine nl ?_
     refine AW.drop (List.take_sublist 1 _) ?_
     refine AW.ret (retI (.tmp rfl (.tmp rfl .nil)) ?_)
     rw [if_pos hval]
     refine enc_end ?_
     rw [enc0 (by rw [h7t]; rfl)]
     skip
     try simp only [List.append_assoc]
     rfl
    ·
     refine AWL.buildSlice1 rfl rfl (B rfl) rfl el_43 rfl (evsC (E rfl rfl) evs0) (Nat.le_of_ble_eq_true rfl) rfl rfl ?_
     refine tb 2 rfl ?_
     refine AWH.one (i := 5) (by kernel_rfl) rfl ?_
     refine C1 rfl ce_27 (E rfl rfl) (evsC (E rfl rfl) (evsC (E rfl rfl) (evsC (E rfl rfl) (evsC (E rfl rfl) evs0)))) (S1 := CB _ _ _ _) (S2 := [_]) rfl (rex34 _ _ _ _ _ _ _) ?_
     rintro t39 S39 ⟨rfl, A39, c39, rfl⟩
     refine tb 2 rfl ?_
     refine AWH.one (i := 8) (by kernel_rfl) rfl ?_
     refine C1 rfl ce_28 (E rfl rfl) (evsC (E rfl rfl) (evsC (E rfl rfl) evs0)) (S1 := CB _ _ _ _) (S2 := [_]) rfl (put35 _ _ _ _ [_]) ?_
     rintro t42 S42 ⟨rfl, A42, c42, rfl⟩
     refine tb 2 rfl ?_
     refine AWH.one (i := 13) (by kernel_rfl) rfl ?_
     refine C1 rfl ce_29 (E rfl rfl) (evsC (E rfl rfl) (evsC (E rfl rfl) (evsC (E rfl rfl) evs0))) (S1 := CB _ _ _ _) (S2 := [_]) rfl (two36 _ _ _ _ _ _) ?_
     rintro t47 S47 ⟨rfl, A47, c47, rfl⟩
     refine tb 2 rfl ?_
     refine AWH.done (by kernel_rfl) ?_
     refine AW.rseq ?_
     refine Y1 (Yv.move rfl eV) ?_
     refine Y1 (Yv.nilChk rfl eV) ?_
     refine Y1 (Yv.fieldBox rfl fo_49_0 eV) ?_
     refine Y1 (Yv.loadBox rfl ag_24 (i := 1) rfl (E rfl rfl) rfl) ?_
     refine Y1 (Yv.assign rfl eV) ?_
     refine Y1 (Yv.assign rfl eV) ?_
     refine nl ?_
     refine AW.drop (List.take_sublist 1 _) ?_
     refine AW.ret (retI (.tmp rfl (.tmp rfl .nil)) ?_)
     rw [if_pos hval]
     refine enc_end ?_
     rw [enc0 (by rw [h7t]; rfl)]
     skip
     try simp only [List.append_assoc]
     rfl
   · exfalso; replace h8f := of_decide_eq_false h8f; omega
  try replace h7f := of_decide_eq_false h7f
  refine AW.rseq ?_
  refine Y1 (Yv.eql rfl eV eV) ?_
  refine Y1 (Yv.assign rfl eV) ?_
  refine nl ?_
  refine AW.cond rfl (fun h9t => ?_) (fun h9f => ?_)
  ·
   try replace h9t := of_decide_eq_true h9t
   refine AW.skip ?_
   refine AW.cond rfl (fun h10t => ?_) (fun h10f => ?_)
   ·
    try replace h10t := of_decide_eq_true h10t
    refine AW.regionH (HeldBox b1 (insVals i)) rfl (tells_box (k := 2) rfl) ?_
    refine AWH.tk (i := 0) rfl rfl rfl (B rfl) (heldAll (freeMove rfl (E rfl rfl))) ?_
    refine AWH.tk (i := 1) rfl rfl rfl (B rfl) (heldAll (freeField rfl fo_23_2 (E rfl rfl))) ?_
    refine AWH.tk (i := 2) rfl rfl rfl (B rfl) (heldLoad rfl ag_3 (E rfl rfl) rfl) ?_
    refine AWH.tk (i := 3) rfl rfl rfl (B rfl) (heldAll (freeField rfl fo_23_1 (E rfl rfl))) ?_
    refine AWH.tk (i := 4) rfl rfl rfl (B rfl) (heldLoad rfl ag_3 (E rfl rfl) rfl) ?_
    refine AWH.tk (i := 6) rfl rfl rfl (B rfl) (heldAll (freeMove rfl (E rfl rfl))) ?_
    refine AWH.tk (i := 9) rfl rfl rfl (B rfl) (heldAll (freeField rfl fo_23_2 (E rfl rfl))) ?_
    refine AWH.tk (i := 10) rfl rfl rfl (B rfl) (heldLoad rfl ag_3 (E rfl rfl) rfl) ?_
    refine AWH.tk (i := 11) rfl rfl rfl (B rfl) (heldAll (freeField rfl fo_23_1 (E rfl rfl))) ?_
    refine AWH.tk (i := 12) rfl rfl rfl (B rfl) (heldLoad rfl ag_3 (E rfl rfl) rfl) ?_
    refine AWH.two (i := 5) (j := 7) (by kernel_rfl) rfl rfl ?_ ?_
    ·
     refine C1 rfl ce_27 (E rfl rfl) (evsC (E rfl rfl) (evsC (E rfl rfl) (evsC (E rfl rfl) (evsC (E rfl rfl) evs0)))) (S1 := CB _ _ _ _) (S2 := [_]) rfl (rex34 _ _ _ _ _ _ _) ?_
     rintro t39 S39 ⟨rfl, A39, c39, rfl⟩
     refine tb 2 rfl ?_
     refine AWH.one (i := 7) (by kernel_rfl) rfl ?_
     refine AWL.buildSlice1 rfl rfl (B rfl) rfl el_43 rfl (evsC (E rfl rfl) evs0) (Nat.le_of_ble_eq_true rfl) rfl rfl ?_
     refine tb 2 rfl ?_
     refine AWH.one (i := 8) (by kernel_rfl) rfl ?_
     refine C1 rfl ce_28 (E rfl rfl) (evsC (E rfl rfl) (evsC (E rfl rfl) evs0)) (S1 := CB _ _ _ _) (S2 := [_]) rfl (put35 _ _ _ _ [_]) ?_
     rintro t42 S42 ⟨rfl, A42, c42, rfl⟩
     refine tb 2 rfl ?_
     refine AWH.one (i := 13) (by kernel_rfl) rfl ?_
     refine C1 rfl ce_29 (E rfl rfl) (evsC (E rfl rfl) (evsC (E rfl rfl) (evsC (E rfl rfl) evs0))) (S1 := CB _ _ _ _) (S2 := [_]) rfl (two36 _ _ _ _ _ _) ?_
     rintro t47 S47 ⟨rfl, A47, c47, rfl⟩
     refine tb 2 rfl ?_
     refine AWH.done (by kernel_rfl) ?_
     refine AW.rseq ?_
     refine Y1 (Yv.move rfl eV) ?_
     refine Y1 (Yv.nilChk rfl eV) ?_
     refine Y1 (Yv.fieldBox rfl fo_49_0 eV) ?_
     refine Y1 (Yv.loadBox rfl ag_24 (i := 1) rfl (E rfl rfl) rfl) ?_
     refine Y1 (Yv.assign rfl eV) ?_
     refine Y1 (Yv.assign rfl eV) ?_
     refine nl ?_
     refine AW.drop (List.take_sublist 1 _) ?_
     refine AW.ret (retI (.tmp rfl (.tmp rfl .nil)) ?_)
     rw [if_pos hval]
     refine enc_end ?_
     rw [enc0 (by rw [h9t]; rfl)]
     skip
     try simp only [List.append_assoc]
     rfl
    ·
     refine AWL.buildSlice1 rfl rfl (B rfl) rfl el_43 rfl (evsC (E rfl rfl) evs0) (Nat.le_of_ble_eq_true rfl) rfl rfl ?_
     refine tb 2 rfl ?_
     refine AWH.one (i := 5) (by kernel_rfl) rfl ?_
     refine C1 rfl ce_27 (E rfl rfl) (evsC (E rfl rfl) (evsC (E rfl rfl) (evsC (E rfl rfl) (evsC (E rfl rfl) evs0)))) (S1 := CB _ _ _ _) (S2 := [_]) rfl (rex34 _ _ _ _ _ _ _) ?_
     rintro t39 S39 ⟨rfl, A39, c39, rfl⟩
     refine tb 2 rfl ?_
     refine AWH.one (i := 8) (by kernel_rfl) rfl ?_
     refine C1 rfl ce_28 (E rfl rfl) (evsC (E rfl rfl) (evsC (E rfl rfl) evs0)) (S1 := CB _ _ _ _) (S2 := [_]) rfl (put35 _ _ _ _ [_]) ?_
     rintro t42 S42 ⟨rfl, A42, c42, rfl⟩
     refine tb 2 rfl ?_
     refine AWH.one (i := 13) (by kernel_rfl) rfl ?_
     refine C1 rfl ce_29 (E rfl rfl) (evsC (E rfl rfl) (evsC (E rfl rfl) (evsC (E rfl rfl) evs0))) (S1 := CB _ _ _ _) (S2 := [_]) rfl (two36 _ _ _ _ _ _) ?_
     rintro t47 S47 ⟨rfl, A47, c47, rfl⟩
     refine tb 2 rfl ?_
     refine AWH.done (by kernel_rfl) ?_
     refine AW.rseq ?_
     refine Y1 (Yv.move rfl eV) ?_
     refine Y1 (Yv.nilChk rfl eV) ?_
     refine Y1 (Yv.fieldBox rfl fo_49_0 eV) ?_
     refine Y1 (Yv.loadBox rfl ag_24 (i := 1) rfl (E rfl rfl) rfl) ?_
     refine Y1 (Yv.assign rfl eV) ?_
     refine Y1 (Yv.assign rfl eV) ?_
     refine nl ?_
     refine AW.drop (List.take_sublist 1 _) ?_
     refine AW.ret (retI (.tmp rfl (.tmp rfl .nil)) ?_)
     rw [if_pos hval]
     refine enc_end ?_
     rw [enc0 (by rw [h9t]; rfl)]
     skip
     try simp only [List.append_assoc]
     rfl
   · exfalso; replace h10f := of_decide_eq_false h10f; omega
  try replace h9f := of_decide_eq_false h9f
  refine AW.rseq ?_
  refine Y1 (Yv.eql rfl eV eV) ?_
  refine Y1 (Yv.assign rfl eV) ?_
  refine nl ?_
  refine AW.cond rfl (fun h11t => ?_) (fun h11f => ?_)
  ·
   try replace h11t := of_decide_eq_true h11t
   refine AW.skip ?_
   refine AW.cond rfl (fun h12t => ?_) (fun h12f => ?_)
   ·
    try replace h12t := of_decide_eq_true h12t
    refine AW.regionH (HeldBox b1 (insVals i)) rfl (tells_box (k := 2) rfl) ?_
    refine AWH.tk (i := 0) rfl rfl rfl (B rfl) (heldAll (freeMove rfl (E rfl rfl))) ?_
    refine AWH.tk (i := 1) rfl rfl rfl (B rfl) (heldAll (freeField rfl fo_23_2 (E rfl rfl))) ?_
    refine AWH.tk (i := 2) rfl rfl rfl (B rfl) (heldLoad rfl ag_3 (E rfl rfl) rfl) ?_
    refine AWH.tk (i := 3) rfl rfl rfl (B rfl) (heldAll (freeField rfl fo_23_1 (E rfl rfl))) ?_
    refine AWH.tk (i := 4) rfl rfl rfl (B rfl) (heldLoad rfl ag_3 (E rfl rfl) rfl) ?_
    refine AWH.tk (i := 6) rfl rfl rfl (B rfl) (heldAll (freeMove rfl (E rfl rfl))) ?_
    refine AWH.tk (i := 9) rfl rfl rfl (B rfl) (heldAll (freeField rfl fo_23_2 (E rfl rfl))) ?_
    refine AWH.tk (i := 10) rfl rfl rfl (B rfl) (heldLoad rfl ag_3 (E rfl rfl) rfl) ?_
    refine AWH.tk (i := 11) rfl rfl rfl (B rfl) (heldAll (freeField rfl fo_23_1 (E rfl rfl))) ?_
    refine AWH.tk (i := 12) rfl rfl rfl (B rfl) (heldLoad rfl ag_3 (E rfl rfl) rfl) ?_
    refine AWH.two (i := 5) (j := 7) (by kernel_rfl) rfl rfl ?_ ?_
    ·
     refine C1 rfl ce_27 (E rfl rfl) (evsC (E rfl rfl) (evsC (E rfl rfl) (evsC (E rfl rfl) (evsC (E rfl rfl) evs0)))) (S1 := CB _ _ _ _) (S2 := [_]) rfl (rex34 _ _ _ _ _ _ _) ?_
     rintro t39 S39 ⟨rfl, A39, c39, rfl⟩
     refine tb 2 rfl ?_
     refine AWH.one (i := 7) (by kernel_rfl) rfl ?_
     refine AWL.buildSlice1 rfl rfl (B rfl) rfl el_43 rfl (evsC (E rfl rfl) evs0) (Nat.le_of_ble_eq_true rfl) rfl rfl ?_
     refine tb 2 rfl ?_
     refine AWH.one (i := 8) (by kernel_rfl) rfl ?_
     refine C1 rfl ce_28 (E rfl rfl) (evsC (E rfl rfl) (evsC (E rfl rfl) evs0)) (S1 := CB _ _ _ _) (S2 := [_]) rfl (put35 _ _ _ _ [_]) ?_
     rintro t42 S42 ⟨rfl, A42, c42, rfl⟩
     refine tb 2 rfl ?_
     refine AWH.one (i := 13) (by kernel_rfl) rfl ?_
     refine C1 rfl ce_29 (E rfl rfl) (evsC (E rfl rfl) (evsC (E rfl rfl) (evsC (E rfl rfl) evs0))) (S1 := CB _ _ _ _) (S2 := [_]) rfl (two36 _ _ _ _ _ _) ?_
     rintro t47 S47 ⟨rfl, A47, c47, rfl⟩
     refine tb 2 rfl ?_
     refine AWH.done (by kernel_rfl) ?_
     refine AW.rseq ?_
     refine Y1 (Yv.move rfl eV) ?_
     refine Y1 (Yv.nilChk rfl eV) ?_
     refine Y1 (Yv.fieldBox rfl fo_49_0 eV) ?_
     refine Y1 (Yv.loadBox rfl ag_24 (i := 1) rfl (E rfl rfl) rfl) ?_
     refine Y1 (Yv.assign rfl eV) ?_
     refine Y1 (Yv.assign rfl eV) ?_
     refine nl ?_
     refine AW.drop (List.take_sublist 1 _) ?_
     refine AW.ret (retI (.tmp rfl (.tmp rfl .nil)) ?_)
     rw [if_pos hval]
     refine enc_end ?_
     rw [enc0 (by rw [h11t]; rfl)]
     skip
     try simp only [List.append_assoc]
     rfl
    ·
     refine AWL.buildSlice1 rfl rfl (B rfl) rfl el_43 rfl (evsC (E rfl rfl) evs0) (Nat.le_of_ble_eq_true rfl) rfl rfl ?_
     refine tb 2 rfl ?_
     refine AWH.one (i := 5) (by kernel_rfl) rfl ?_
     refine C1 rfl ce_27 (E rfl rfl) (evsC (E rfl rfl) (evsC (E rfl rfl) (evsC (E rfl rfl) (evsC (E rfl rfl) evs0)))) (S1 := CB _ _ _ _) (S2 := [_]) rfl (rex34 _ _ _ _ _ _ _) ?_
     rintro t39 S39 ⟨rfl, A39, c39, rfl⟩
     refine tb 2 rfl ?_
     refine AWH.one (i := 8) (by kernel_rfl) rfl ?_
     refine C1 rfl ce_28 (E rfl rfl) (evsC (E rfl rfl) (evsC (E rfl rfl) evs0)) (S1 := CB _ _ _ _) (S2 := [_]) rfl (put35 _ _ _ _ [_]) ?_
     rintro t42 S42 ⟨rfl, A42, c42, rfl⟩
     refine tb 2 rfl ?_
     refine AWH.one (i := 13) (by kernel_rfl) rfl ?_
     refine C1 rfl ce_29 (E rfl rfl) (evsC (E rfl rfl) (evsC (E rfl rfl) (evsC (E rfl rfl) evs0))) (S1 := CB _ _ _ _) (S2 := [_]) rfl (two36 _ _ _ _ _ _) ?_
     rintro t47 S47 ⟨rfl, A47, c47, rfl⟩
     refine tb 2 rfl ?_
     refine AWH.done (by kernel_rfl) ?_
     refine AW.rseq ?_
     refine Y1 (Yv.move rfl eV) ?_
     refine Y1 (Yv.nilChk rfl eV) ?_
     refine Y1 (Yv.fieldBox rfl fo_49_0 eV) ?_
     refine Y1 (Yv.loadBox rfl ag_24 (i := 1) rfl (E rfl rfl) rfl) ?_
     refine Y1 (Yv.assign rfl eV) ?_
     refine Y1 (Yv.assign rfl eV) ?_
     refine nl ?_
     refine AW.drop (List.take_sublist 1 _) ?_
     refine AW.ret (retI (.tmp rfl (.tmp rfl .nil)) ?_)
     rw [if_pos hval]
     refine enc_end ?_
     rw [enc0 (by rw [h11t]; rfl)]
     skip
     try simp only [List.append_assoc]
     rfl
   · exfalso; replace h12f := of_decide_eq_false h12f; omega
  try replace h11f := of_decide_eq_false h11f
  refine AW.rseq ?_
  refine Y1 (Yv.eql rfl eV eV) ?_
  refine Y1 (Yv.assign rfl eV) ?_
  refine nl ?_
  refine AW.cond rfl (fun h13t => ?_) (fun h13f => ?_)
  ·
   try replace h13t := of_decide_eq_true h13t
   refine AW.skip ?_
   refine AW.cond rfl (fun h14t => ?_) (fun h14f => ?_)
   ·
    try replace h14t := of_decide_eq_true h14t
    refine AW.regionH (HeldBox b1 (insVals i)) rfl (tells_box (k := 2) rfl) ?_
    refine AWH.tk (i := 0) rfl rfl rfl (B rfl) (heldAll (freeMove rfl (E rfl rfl))) ?_
    refine AWH.tk (i := 1) rfl rfl rfl (B rfl) (heldAll (freeField rfl fo_23_2 (E rfl rfl))) ?_
    refine AWH.tk (i := 2) rfl rfl rfl (B rfl) (heldLoad rfl ag_3 (E rfl rfl) rfl) ?_
    refine AWH.tk (i := 3) rfl rfl rfl (B rfl) (heldAll (freeField rfl fo_23_1 (E rfl rfl))) ?_
    refine AWH.tk (i := 4) rfl rfl rfl (B rfl) (heldLoad rfl ag_3 (E rfl rfl) rfl) ?_
    refine AWH.tk (i := 6) rfl rfl rfl (B rfl) (heldAll (freeMove rfl (E rfl rfl))) ?_
    refine AWH.tk (i := 9) rfl rfl rfl (B rfl) (heldAll (freeField rfl fo_23_2 (E rfl rfl))) ?_
    refine AWH.tk (i := 10) rfl rfl rfl (B rfl) (heldLoad rfl ag_3 (E rfl rfl) rfl) ?_
    refine AWH.tk (i := 11) rfl rfl rfl (B rfl) (heldAll (freeField rfl fo_23_1 (E rfl rfl))) ?_
    refine AWH.tk (i := 12) rfl rfl rfl (B rfl) (heldLoad rfl ag_3 (E rfl rfl) rfl) ?_
    refine AWH.two (i := 5) (j := 7) (by kernel_rfl) rfl rfl ?_ ?_
    ·
     refine C1 rfl ce_27 (E rfl rfl) (evsC (E rfl rfl) (evsC (E rfl rfl) (evsC (E rfl rfl) (evsC (E rfl rfl) evs0)))) (S1 := CB _ _ _ _) (S2 := [_]) rfl (rex34 _ _ _ _ _ _ _) ?_
     rintro t39 S39 ⟨rfl, A39, c39, rfl⟩
     refine tb 2 rfl ?_
     refine AWH.one (i := 7) (by kernel_rfl) rfl ?_
     refine AWL.buildSlice1 rfl rfl (B rfl) rfl el_43 rfl (evsC (E rfl rfl) evs0) (Nat.le_of_ble_eq_true rfl) rfl rfl ?_
     refine tb 2 rfl ?_
     refine AWH.one (i := 8) (by kernel_rfl) rfl ?_
     refine C1 rfl ce_28 (E rfl rfl) (evsC (E rfl rfl) (evsC (E rfl rfl) evs0)) (S1 := CB _ _ _ _) (S2 := [_]) rfl (put35 _ _ _ _ [_]) ?_
     rintro t42 S42 ⟨rfl, A42, c42, rfl⟩
     refine tb 2 rfl ?_
     refine AWH.one (i := 13) (by kernel_rfl) rfl ?_
     refine C1 rfl ce_29 (E rfl rfl) (evsC (E rfl rfl) (evsC (E rfl rfl) (evsC (E rfl rfl) evs0))) (S1 := CB _ _ _ _) (S2 := [_]) rfl (two36 _ _ _ _ _ _) ?_
     rintro t47 S47 ⟨rfl, A47, c47, rfl⟩
     refine tb 2 rfl ?_
     refine AWH.done (by kernel_rfl) ?_
     refine AW.rseq ?_
     refine Y1 (Yv.move rfl eV) ?_
     refine Y1 (Yv.nilChk rfl eV) ?_
     refine Y1 (Yv.fieldBox rfl fo_49_0 eV) ?_
     refine Y1 (Yv.loadBox rfl ag_24 (i := 1) rfl (E rfl rfl) rfl) ?_
     refine Y1 (Yv.assign rfl eV) ?_
     refine Y1 (Yv.assign rfl eV) ?_
     refine nl ?_
     refine AW.drop (List.take_sublist 1 _) ?_
     refine AW.ret (retI (.tmp rfl (.tmp rfl .nil)) ?_)
     rw [if_pos hval]
     refine enc_end ?_
     rw [enc0 (by rw [h13t]; rfl)]
     skip
     try simp only [List.append_assoc]
     rfl
    ·
     refine AWL.buildSlice1 rfl rfl (B rfl) rfl el_43 rfl (evsC (E rfl rfl) evs0) (Nat.le_of_ble_eq_true rfl) rfl rfl ?_
     refine tb 2 rfl ?_
     refine AWH.one (i := 5) (by kernel_rfl) rfl ?_
     refine C1 rfl ce_27 (E rfl rfl) (evsC (E rfl rfl) (evsC (E rfl rfl) (evsC (E rfl rfl) (evsC (E rfl rfl) evs0)))) (S1 := CB _ _ _ _) (S2 := [_]) rfl (rex34 _ _ _ _ _ _ _) ?_
     rintro t39 S39 ⟨rfl, A39, c39, rfl⟩
     refine tb 2 rfl ?_
     refine AWH.one (i := 8) (by kernel_rfl) rfl ?_
     refine C1 rfl ce_28 (E rfl rfl) (evsC (E rfl rfl) (evsC (E rfl rfl) evs0)) (S1 := CB _ _ _ _) (S2 := [_]) rfl (put35 _ _ _ _ [_]) ?_
     rintro t42 S42 ⟨rfl, A42, c42, rfl⟩
     refine tb 2 rfl ?_
     refine AWH.one (i := 13) (by kernel_rfl) rfl ?_
     refine C1 rfl ce_29 (E rfl rfl) (evsC (E rfl rfl) (evsC (E rfl rfl) (evsC (E rfl rfl) evs0))) (S1 := CB _ _ _ _) (S2 := [_]) rfl (two36 _ _ _ _ _ _) ?_
     rintro t47 S47 ⟨rfl, A47, c47, rfl⟩
     refine tb 2 rfl ?_
     refine AWH.done (by kernel_rfl) ?_
     refine AW.rseq ?_
     refine Y1 (Yv.move rfl eV) ?_
     refine Y1 (Yv.nilChk rfl eV) ?_
     refine Y1 (Yv.fieldBox rfl fo_49_0 eV) ?_
     refine Y1 (Yv.loadBox rfl ag_24 (i := 1) rfl (E rfl rfl) rfl) ?_
     refine Y1 (Yv.assign rfl eV) ?_
     refine Y1 (Yv.assign rfl eV) ?_
     refine nl ?_
     refine AW.drop (List.take_sublist 1 _) ?_
     refine AW.ret (retI (.tmp rfl (.tmp rfl .nil)) ?_)
     rw [if_pos hval]
     refine enc_end ?_
     rw [enc0 (by rw [h13t]; rfl)]
     skip
     try simp only [List.append_assoc]
     rfl
   · exfalso; replace h14f := of_decide_eq_false h14f; omega
  try replace h13f := of_decide_eq_false h13f
  refine AW.rseq ?_
  refine Y1 (Yv.eql rfl eV eV) ?_
  refine Y1 (Yv.assign rfl eV) ?_
  refine nl ?_
  refine AW.cond rfl (fun h15t => ?_) (fun h15f => ?_)
  ·
   try replace h15t := of_decide_eq_true h15t
   refine AW.skip ?_
   refine AW.cond rfl (fun h16t => ?_) (fun h16f => ?_)
   ·
    try replace h16t := of_decide_eq_true h16t
    refine AW.regionH (HeldBox b1 (insVals i)) rfl (tells_box (k := 2) rfl) ?_
    refine AWH.tk (i := 0) rfl rfl rfl (B rfl) (heldAll (freeMove rfl (E rfl rfl))) ?_
    refine AWH.tk (i := 1) rfl rfl rfl (B rfl) (heldAll (freeField rfl fo_23_2 (E rfl rfl))) ?_
    refine AWH.tk (i := 2) rfl rfl rfl (B rfl) (heldLoad rfl ag_3 (E rfl rfl) rfl) ?_
    refine AWH.tk (i := 3) rfl rfl rfl (B rfl) (heldAll (freeField rfl fo_23_1 (E rfl rfl))) ?_
    refine AWH.tk (i := 4) rfl rfl rfl (B rfl) (heldLoad rfl ag_3 (E rfl rfl) rfl) ?_
    refine AWH.tk (i := 6) rfl rfl rfl (B rfl) (heldAll (freeMove rfl (E rfl rfl))) ?_
    refine AWH.tk (i := 9) rfl rfl rfl (B rfl) (heldAll (freeField rfl fo_23_2 (E rfl rfl))) ?_
    refine AWH.tk (i := 10) rfl rfl rfl (B rfl) (heldLoad rfl ag_3 (E rfl rfl) rfl) ?_
    refine AWH.tk (i := 11) rfl rfl rfl (B rfl) (heldAll (freeField rfl fo_23_1 (E rfl rfl))) ?_
    refine AWH.tk (i := 12) rfl rfl rfl (B rfl) (heldLoad rfl ag_3 (E rfl rfl) rfl) ?_
    refine AWH.two (i := 5) (j := 7) (by kernel_rfl) rfl rfl ?_ ?_
    ·
     refine C1 rfl ce_27 (E rfl rfl) (evsC (E rfl rfl) (evsC (E rfl rfl) (evsC (E rfl rfl) (evsC (E rfl rfl) evs0)))) (S1 := CB _ _ _ _) (S2 := [_]) rfl (rex34 _ _ _ _ _ _ _) ?_
     rintro t39 S39 ⟨rfl, A39, c39, rfl⟩
     refine tb 2 rfl ?_
     refine AWH.one (i := 7) (by kernel_rfl) rfl ?_
     refine AWL.buildSlice1 rfl rfl (B rfl) rfl el_43 rfl (evsC (E rfl rfl) evs0) (Nat.le_of_ble_eq_true rfl) rfl rfl ?_
     refine tb 2 rfl ?_
     refine AWH.one (i := 8) (by kernel_rfl) rfl ?_
     refine C1 rfl ce_28 (E rfl rfl) (evsC (E rfl rfl) (evsC (E rfl rfl) evs0)) (S1 := CB _ _ _ _) (S2 := [_]) rfl (put35 _ _ _ _ [_]) ?_
     rintro t42 S42 ⟨rfl, A42, c42, rfl⟩
     refine tb 2 rfl ?_
     refine AWH.one (i := 13) (by kernel_rfl) rfl ?_
     refine C1 rfl ce_29 (E rfl rfl) (evsC (E rfl rfl) (evsC (E rfl rfl) (evsC (E rfl rfl) evs0))) (S1 := CB _ _ _ _) (S2 := [_]) rfl (two36 _ _ _ _ _ _) ?_
     rintro t47 S47 ⟨rfl, A47, c47, rfl⟩
     refine tb 2 rfl ?_
     refine AWH.done (by kernel_rfl) ?_
     refine AW.rseq ?_
     refine Y1 (Yv.move rfl eV) ?_
     refine Y1 (Yv.nilChk rfl eV) ?_
     refine Y1 (Yv.fieldBox rfl fo_49_0 eV) ?_
     refine Y1 (Yv.loadBox rfl ag_24 (i := 1) rfl (E rfl rfl) rfl) ?_
     refine Y1 (Yv.assign rfl eV) ?_
     refine Y1 (Yv.assign rfl eV) ?_
     refine nl ?_
     refine AW.drop (List.take_sublist 1 _) ?_
     refine AW.ret (retI (.tmp rfl (.tmp rfl .nil)) ?_)
     rw [if_pos hval]
     refine enc_end ?_
     rw [enc0 (by rw [h15t]; rfl)]
     skip
     try simp only [List.append_assoc]
     rfl
    ·
     refine AWL.buildSlice1 rfl rfl (B rfl) rfl el_43 rfl (evsC (E rfl rfl) evs0) (Nat.le_of_ble_eq_true rfl) rfl rfl ?_
     refine tb 2 rfl ?_
     refine AWH.one (i := 5) (by kernel_rfl) rfl ?_
     refine C1 rfl ce_27 (E rfl rfl) (evsC (E rfl rfl) (evsC (E rfl rfl) (evsC (E rfl rfl) (evsC (E rfl rfl) evs0)))) (S1 := CB _ _ _ _) (S2 := [_]) rfl (rex34 _ _ _ _ _ _ _) ?_
     rintro t39 S39 ⟨rfl, A39, c39, rfl⟩
     refine tb 2 rfl ?_
     refine AWH.one (i := 8) (by kernel_rfl) rfl ?_
     refine C1 rfl ce_28 (E rfl rfl) (evsC (E rfl rfl) (evsC (E rfl rfl) evs0)) (S1 := CB _ _ _ _) (S2 := [_]) rfl (put35 _ _ _ _ [_]) ?_
     rintro t42 S42 ⟨rfl, A42, c42, rfl⟩
     refine tb 2 rfl ?_
     refine AWH.one (i := 13) (by kernel_rfl) rfl ?_
     refine C1 rfl ce_29 (E rfl rfl) (evsC (E rfl rfl) (evsC (E rfl rfl) (evsC (E rfl rfl) evs0))) (S1 := CB _ _ _ _) (S2 := [_]) rfl (two36 _ _ _ _ _ _) ?_
     rintro t47 S47 ⟨rfl, A47, c47, rfl⟩
     refine tb 2 rfl ?_
     refine AWH.done (by kernel_rfl) ?_
     refine AW.rseq ?_
     refine Y1 (Yv.move rfl eV) ?_
     refine Y1 (Yv.nilChk rfl eV) ?_
     refine Y1 (Yv.fieldBox rfl fo_49_0 eV) ?_
     refine Y1 (Yv.loadBox rfl ag_24 (i := 1) rfl (E rfl rfl) rfl) ?_
     refine Y1 (Yv.assign rfl eV) ?_
     refine Y1 (Yv.assign rfl eV) ?_
     refine nl ?_
     refine AW.drop (List.take_sublist 1 _) ?_
     refine AW.ret (retI (.tmp rfl (.tmp rfl .nil)) ?_)
     rw [if_pos hval]
     refine enc_end ?_
     rw [enc0 (by rw [h15t]; rfl)]
     skip
     try simp only [List.append_assoc]
     rfl
   · exfalso; replace h16f := of_decide_eq_false h16f; omega
  try replace h15f := of_decide_eq_false h15f
  refine AW.rseq ?_
  refine Y1 (Yv.eql rfl eV eV) ?_
  refine Y1 (Yv.assign rfl eV) ?_
  refine nl ?_
  refine AW.cond rfl (fun h17t => ?_) (fun h17f => ?_)
  ·
   try replace h17t := of_decide_eq_true h17t
   refine AW.skip ?_
   refine AW.cond rfl (fun h18t => ?_) (fun h18f => ?_)
   ·
    try replace h18t := of_decide_eq_true h18t
    refine AW.regionH (HeldBox b1 (insVals i)) rfl (tells_box (k := 2) rfl) ?_
    refine AWH.tk (i := 0) rfl rfl rfl (B rfl) (heldAll (freeMove rfl (E rfl rfl))) ?_
    refine AWH.tk (i := 1) rfl rfl rfl (B rfl) (heldAll (freeField rfl fo_23_2 (E rfl rfl))) ?_
    refine AWH.tk (i := 2) rfl rfl rfl (B rfl) (heldLoad rfl ag_3 (E rfl rfl) rfl) ?_
    refine AWH.tk (i := 3) rfl rfl rfl (B rfl) (heldAll (freeField rfl fo_23_1 (E rfl rfl))) ?_
    refine AWH.tk (i := 4) rfl rfl rfl (B rfl) (heldLoad rfl ag_3 (E rfl rfl) rfl) ?_
    refine AWH.tk (i := 6) rfl rfl rfl (B rfl) (heldAll (freeMove rfl (E rfl rfl))) ?_
    refine AWH.tk (i := 9) rfl rfl rfl (B rfl) (heldAll (freeField rfl fo_23_2 (E rfl rfl))) ?_
    refine AWH.tk (i := 10) rfl rfl rfl (B rfl) (heldLoad rfl ag_3 (E rfl rfl) rfl) ?_
    refine AWH.tk (i := 11) rfl rfl rfl (B rfl) (heldAll (freeField rfl fo_23_1 (E rfl rfl))) ?_
    refine AWH.tk (i := 12) rfl rfl rfl (B rfl) (heldLoad rfl ag_3 (E rfl rfl) rfl) ?_
    refine AWH.two (i := 5) (j := 7) (by kernel_rfl) rfl rfl ?_ ?_
    ·
     refine C1 rfl ce_27 (E rfl rfl) (evsC (E rfl rfl) (evsC (E rfl rfl) (evsC (E rfl rfl) (evsC (E rfl rfl) evs0)))) (S1 := CB _ _ _ _) (S2 := [_]) rfl (rex34 _ _ _ _ _ _ _) ?_
     rintro t39 S39 ⟨rfl, A39, c39, rfl⟩
     refine tb 2 rfl ?_
     refine AWH.one (i := 7) (by kernel_rfl) rfl ?_
     refine AWL.buildSlice1 rfl rfl (B rfl) rfl el_43 rfl (evsC (E rfl rfl) evs0) (Nat.le_of_ble_eq_true rfl) rfl rfl ?_
     refine tb 2 rfl ?_
     refine AWH.one (i := 8) (by kernel_rfl) rfl ?_
     refine C1 rfl ce_28 (E rfl rfl) (evsC (E rfl rfl) (evsC (E rfl rfl) evs0)) (S1 := CB _ _ _ _) (S2 := [_]) rfl (put35 _ _ _ _ [_]) ?_
     rintro t42 S42 ⟨rfl, A42, c42, rfl⟩
     refine tb 2 rfl ?_
     refine AWH.one (i := 13) (by kernel_rfl) rfl ?_
     refine C1 rfl ce_29 (E rfl rfl) (evsC (E rfl rfl) (evsC (E rfl rfl) (evsC (E rfl rfl) evs0))) (S1 := CB _ _ _ _) (S2 := [_]) rfl (two36 _ _ _ _ _ _) ?_
     rintro t47 S47 ⟨rfl, A47, c47, rfl⟩
     refine tb 2 rfl ?_
     refine AWH.done (by kernel_rfl) ?_
     refine AW.rseq ?_
     refine Y1 (Yv.move rfl eV) ?_
     refine Y1 (Yv.nilChk rfl eV) ?_
     refine Y1 (Yv.fieldBox rfl fo_49_0 eV) ?_
     refine Y1 (Yv.loadBox rfl ag_24 (i := 1) rfl (E rfl rfl) rfl) ?_
     refine Y1 (Yv.assign rfl eV) ?_
     refine Y1 (Yv.assign rfl eV) ?_
     refine nl ?_
     refine AW.drop (List.take_sublist 1 _) ?_
     refine AW.ret (retI (.tmp rfl (.tmp rfl .nil)) ?_)
     rw [if_pos hval]
     refine enc_end ?_
     rw [enc0 (by rw [h17t]; rfl)]
     skip
     try simp only [List.append_assoc]
     rfl
    ·
     refine AWL.buildSlice1 rfl rfl (B rfl) rfl el_43 rfl (evsC (E rfl rfl) evs0) (Nat.le_of_ble_eq_true rfl) rfl rfl ?_
     refine tb 2 rfl ?_
     refine AWH.one (i := 5) (by kernel_rfl) rfl ?_
     refine C1 rfl ce_27 (E rfl rfl) (evsC (E rfl rfl) (evsC (E rfl rfl) (evsC (E rfl rfl) (evsC (E rfl rfl) evs0)))) (S1 := CB _ _ _ _) (S2 := [_]) rfl (rex34 _ _ _ _ _ _ _) ?_
     rintro t39 S39 ⟨rfl, A39, c39, rfl⟩
     refine tb 2 rfl ?_
     refine AWH.one (i := 8) (by kernel_rfl) rfl ?_
     refine C1 rfl ce_28 (E rfl rfl) (evsC (E rfl rfl) (evsC (E rfl rfl) evs0)) (S1 := CB _ _ _ _) (S2 := [_]) rfl (put35 _ _ _ _ [_]) ?_
     rintro t42 S42 ⟨rfl, A42, c42, rfl⟩
     refine tb 2 rfl ?_
     refine AWH.one (i := 13) (by kernel_rfl) rfl ?_
     refine C1 rfl ce_29 (E rfl rfl) (evsC (E rfl rfl) (evsC (E rfl rfl) (evsC (E rfl rfl) evs0))) (S1 := CB _ _ _ _) (S2 := [_]) rfl (two36 _ _ _ _ _ _) ?_
     rintro t47 S47 ⟨rfl, A47, c47, rfl⟩
     refine tb 2 rfl ?_
     refine AWH.done (by kernel_rfl) ?_
     refine AW.rseq ?_
     refine Y1 (Yv.move rfl eV) ?_
     refine Y1 (Yv.nilChk rfl eV) ?_
     refine Y1 (Yv.fieldBox rfl fo_49_0 eV) ?_
     refine Y1 (Yv.loadBox rfl ag_24 (i := 1) rfl (E rfl rfl) rfl) ?_
     refine Y1 (Yv.assign rfl eV) ?_
     refine Y1 (Yv.assign rfl eV) ?_
     refine nl ?_
     refine AW.drop (List.take_sublist 1 _) ?_
     refine AW.ret (retI (.tmp rfl (.tmp rfl .nil)) ?_)
     rw [if_pos hval]
     refine enc_end ?_
     rw [enc0 (by rw [h17t]; rfl)]
     skip
     try simp only [List.append_assoc]
     rfl
   · exfalso; replace h18f := of_decide_eq_false h18f; omega
  try replace h17f := of_decide_eq_false h17f
  refine AW.region ?_
  refine Y1 (Yv.eql rfl eV eV) ?_
  refine Y1 (Yv.assign rfl eV) ?_
  refine nl ?_
  refine AW.cond rfl (fun h19t => ?_) (fun h19f => ?_)
  ·
   try replace h19t := of_decide_eq_true h19t
   refine AW.regionH (HeldBox b1 (insVals i)) rfl (tells_box (k := 2) rfl) ?_
   refine AWH.tk (i := 0) rfl rfl rfl (B rfl) (heldAll (freeMove rfl (E rfl rfl))) ?_
   refine AWH.tk (i := 1) rfl rfl rfl (B rfl) (heldAll (freeField rfl fo_23_2 (E rfl rfl))) ?_
   refine AWH.tk (i := 2) rfl rfl rfl (B rfl) (heldLoad rfl ag_3 (E rfl rfl) rfl) ?_
   refine AWH.tk (i := 3) rfl rfl rfl (B rfl) (heldAll (freeField rfl fo_23_1 (E rfl rfl))) ?_
   refine AWH.tk (i := 4) rfl rfl rfl (B rfl) (heldLoad rfl ag_3 (E rfl rfl) rfl) ?_
   refine AWH.tk (i := 6) rfl rfl rfl (B rfl) (heldAll (freeMove rfl (E rfl rfl))) ?_
   refine AWH.tk (i := 9) rfl rfl rfl (B rfl) (heldAll (freeField rfl fo_23_2 (E rfl rfl))) ?_
   refine AWH.tk (i := 10) rfl rfl rfl (B rfl) (heldLoad rfl ag_3 (E rfl rfl) rfl) ?_
   refine AWH.tk (i := 11) rfl rfl rfl (B rfl) (heldAll (freeField rfl fo_23_1 (E rfl rfl))) ?_
   refine AWH.tk (i := 12) rfl rfl rfl (B rfl) (heldLoad rfl ag_3 (E rfl rfl) rfl) ?_
   refine AWH.two (i := 5) (j := 7) (by kernel_rfl) rfl rfl ?_ ?_
   ·
    refine C1 rfl ce_27 (E rfl rfl) (evsC (E rfl rfl) (evsC (E rfl rfl) (evsC (E rfl rfl) (evsC (E rfl rfl) evs0)))) (S1 := CB _ _ _ _) (S2 := [_]) rfl (rex34 _ _ _ _ _ _ _) ?_
    rintro t39 S39 ⟨rfl, A39, c39, rfl⟩
    refine tb 2 rfl ?_
    refine AWH.one (i := 7) (by kernel_rfl) rfl ?_
    refine AWL.buildSlice1 rfl rfl (B rfl) rfl el_43 rfl (evsC (E rfl rfl) evs0) (Nat.le_of_ble_eq_true rfl) rfl rfl ?_
    refine tb 2 rfl ?_
    refine AWH.one (i := 8) (by kernel_rfl) rfl ?_
    refine C1 rfl ce_28 (E rfl rfl) (evsC (E rfl rfl) (evsC (E rfl rfl) evs0)) (S1 := CB _ _ _ _) (S2 := [_]) rfl (put35 _ _ _ _ [_]) ?_
    rintro t42 S42 ⟨rfl, A42, c42, rfl⟩
    refine tb 2 rfl ?_
    refine AWH.one (i := 13) (by kernel_rfl) rfl ?_
    refine C1 rfl ce_29 (E rfl rfl) (evsC (E rfl rfl) (evsC (E rfl rfl) (evsC (E rfl rfl) evs0))) (S1 := CB _ _ _ _) (S2 := [_]) rfl (two36 _ _ _ _ _ _) ?_
    rintro t47 S47 ⟨rfl, A47, c47, rfl⟩
    refine tb 2 rfl ?_
    refine AWH.done (by kernel_rfl) ?_
    refine AW.rseq ?_
    refine Y1 (Yv.move rfl eV) ?_
    refine Y1 (Yv.nilChk rfl eV) ?_
    refine Y1 (Yv.fieldBox rfl fo_49_0 eV) ?_
    refine Y1 (Yv.loadBox rfl ag_24 (i := 1) rfl (E rfl rfl) rfl) ?_
    refine Y1 (Yv.assign rfl eV) ?_
    refine Y1 (Yv.assign rfl eV) ?_
    refine nl ?_
    refine AW.drop (List.take_sublist 1 _) ?_
    refine AW.ret (retI (.tmp rfl (.tmp rfl .nil)) ?_)
    rw [if_pos hval]
    refine enc_end ?_
    rw [enc0 (by rw [h19t]; rfl)]
    skip
    try simp only [List.append_assoc]
    rfl
   ·
    refine AWL.buildSlice1 rfl rfl (B rfl) rfl el_43 rfl (evsC (E rfl rfl) evs0) (Nat.le_of_ble_eq_true rfl) rfl rfl ?_
    refine tb 2 rfl ?_
    refine AWH.one (i := 5) (by kernel_rfl) rfl ?_
    refine C1 rfl ce_27 (E rfl rfl) (evsC (E rfl rfl) (evsC (E rfl rfl) (evsC (E rfl rfl) (evsC (E rfl rfl) evs0)))) (S1 := CB _ _ _ _) (S2 := [_]) rfl (rex34 _ _ _ _ _ _ _) ?_
    rintro t39 S39 ⟨rfl, A39, c39, rfl⟩
    refine tb 2 rfl ?_
    refine AWH.one (i := 8) (by kernel_rfl) rfl ?_
    refine C1 rfl ce_28 (E rfl rfl) (evsC (E rfl rfl) (evsC (E rfl rfl) evs0)) (S1 := CB _ _ _ _) (S2 := [_]) rfl (put35 _ _ _ _ [_]) ?_
    rintro t42 S42 ⟨rfl, A42, c42, rfl⟩
    refine tb 2 rfl ?_
    refine AWH.one (i := 13) (by kernel_rfl) rfl ?_
    refine C1 rfl ce_29 (E rfl rfl) (evsC (E rfl rfl) (evsC (E rfl rfl) (evsC (E rfl rfl) evs0))) (S1 := CB _ _ _ _) (S2 := [_]) rfl (two36 _ _ _ _ _ _) ?_
    rintro t47 S47 ⟨rfl, A47, c47, rfl⟩
    refine tb 2 rfl ?_
    refine AWH.done (by kernel_rfl) ?_
    refine AW.rseq ?_
    refine Y1 (Yv.move rfl eV) ?_
    refine Y1 (Yv.nilChk rfl eV) ?_
    refine Y1 (Yv.fieldBox rfl fo_49_0 eV) ?_
    refine Y1 (Yv.loadBox rfl ag_24 (i := 1) rfl (E rfl rfl) rfl) ?_
    refine Y1 (Yv.assign rfl eV) ?_
    refine Y1 (Yv.assign rfl eV) ?_
    refine nl ?_
    refine AW.drop (List.take_sublist 1 _) ?_
    refine AW.ret (retI (.tmp rfl (.tmp rfl .nil)) ?_)
    rw [if_pos hval]
    refine enc_end ?_
    rw [enc0 (by rw [h19t]; rfl)]
    skip
    try simp only [List.append_assoc]
    rfl
  try replace h19f := of_decide_eq_false h19f
  refine AW.seq ?_
  refine AW.rseq ?_
  refine Y1 (Yv.eql rfl eV eV) ?_
  refine Y1 (Yv.assign rfl eV) ?_
  refine nl ?_
  refine AW.cond rfl (fun h20t => ?_) (fun h20f => ?_)
  ·
   try replace h20t := of_decide_eq_true h20t
   refine AW.skip ?_
   refine AW.cond rfl (fun h21t => ?_) (fun h21f => ?_)
   ·
    try replace h21t := of_decide_eq_true h21t
    refine AW.regionH (HeldBox b1 (insVals i)) rfl (tells_box (k := 2) rfl) ?_
    refine AWH.tk (i := 0) rfl rfl rfl (B rfl) (heldAll (freeMove rfl (E rfl rfl))) ?_
    refine AWH.tk (i := 1) rfl rfl rfl (B rfl) (heldAll (freeField rfl fo_23_1 (E rfl rfl))) ?_
    refine AWH.tk (i := 2) rfl rfl rfl (B rfl) (heldLoad rfl ag_3 (E rfl rfl) rfl) ?_
    refine AWH.tk (i := 4) rfl rfl rfl (B rfl) (heldAll (freeMove rfl (E rfl rfl))) ?_
    refine AWH.tk (i := 7) rfl rfl rfl (B rfl) (heldAll (freeMove rfl (E rfl rfl))) ?_
    refine AWH.tk (i := 8) rfl rfl rfl (B rfl) (heldAll (freeField rfl fo_23_1 (E rfl rfl))) ?_
    refine AWH.tk (i := 9) rfl rfl rfl (B rfl) (heldLoad rfl ag_3 (E rfl rfl) rfl) ?_
    refine AWH.tk (i := 11) rfl rfl rfl (B rfl) (heldAll (freeField rfl fo_23_5 (E rfl rfl))) ?_
    refine AWH.tk (i := 12) rfl rfl rfl (B rfl) (heldLoad rfl ag_2 (E rfl rfl) rfl) ?_
    refine AWH.two (i := 3) (j := 5) (by kernel_rfl) rfl rfl ?_ ?_
    ·
     refine C1 rfl ce_27 (E rfl rfl) (evsC (E rfl rfl) (evsC (E rfl rfl) (evsC (E rfl rfl) (evsC (E rfl rfl) evs0)))) (S1 := CB _ _ _ _) (S2 := [_]) rfl (rex34 _ _ _ _ _ _ _) ?_
     rintro t58 S58 ⟨rfl, A58, c58, rfl⟩
     refine tb 2 rfl ?_
     refine AWH.one (i := 5) (by kernel_rfl) rfl ?_
     refine AWL.buildSlice1 rfl rfl (B rfl) rfl el_43 rfl (evsC (E rfl rfl) evs0) (Nat.le_of_ble_eq_true rfl) rfl rfl ?_
     refine tb 2 rfl ?_
     refine AWH.one (i := 6) (by kernel_rfl) rfl ?_
     refine C1 rfl ce_28 (E rfl rfl) (evsC (E rfl rfl) (evsC (E rfl rfl) evs0)) (S1 := CB _ _ _ _) (S2 := [_]) rfl (put35 _ _ _ _ [_]) ?_
     rintro t61 S61 ⟨rfl, A61, c61, rfl⟩
     refine tb 2 rfl ?_
     refine AWH.one (i := 10) (by kernel_rfl) rfl ?_
     refine C1 rfl ce_29 (E rfl rfl) (evsC (E rfl rfl) (evsC (E rfl rfl) (evsC (E rfl rfl) evs0))) (S1 := CB _ _ _ _) (S2 := [_]) rfl (two36 _ _ _ _ _ _) ?_
     rintro t65 S65 ⟨rfl, A65, c65, rfl⟩
     refine tb 2 rfl ?_
     refine AWH.one (i := 13) (by kernel_rfl) rfl ?_
     refine C1 rfl ce_30 (E rfl rfl) (evsC (E rfl rfl) (evsC (E rfl rfl) (evsC (E rfl rfl) evs0))) (S1 := CB _ _ _ _) (S2 := [_]) rfl (imm37 _ _ _ _ _ 4) ?_
     rintro t68 S68 ⟨rfl, A68, c68, rfl⟩
     refine tb 2 rfl ?_
     refine AWH.done (by kernel_rfl) ?_
     refine AW.rseq ?_
     refine Y1 (Yv.move rfl eV) ?_
     refine Y1 (Yv.nilChk rfl eV) ?_
     refine Y1 (Yv.fieldBox rfl fo_49_0 eV) ?_
     refine Y1 (Yv.loadBox rfl ag_24 (i := 1) rfl (E rfl rfl) rfl) ?_
     refine Y1 (Yv.assign rfl eV) ?_
     refine Y1 (Yv.assign rfl eV) ?_
     refine nl ?_
     refine AW.drop (List.take_sublist 1 _) ?_
     refine AW.ret (retI (.tmp rfl (.tmp rfl .nil)) ?_)
     rw [if_pos hval]
     refine enc_end ?_
     rw [enc1 (by rw [h20t]; rfl)]
     skip
     try simp only [List.append_assoc]
     rfl
    ·
     refine AWL.buildSlice1 rfl rfl (B rfl) rfl el_43 rfl (evsC (E rfl rfl) evs0) (Nat.le_of_ble_eq_true rfl) rfl rfl ?_
     refine tb 2 rfl ?_
     refine AWH.one (i := 3) (by kernel_rfl) rfl ?_
     refine C1 rfl ce_27 (E rfl rfl) (evsC (E rfl rfl) (evsC (E rfl rfl) (evsC (E rfl rfl) (evsC (E rfl rfl) evs0)))) (S1 := CB _ _ _ _) (S2 := [_]) rfl (rex34 _ _ _ _ _ _ _) ?_
     rintro t58 S58 ⟨rfl, A58, c58, rfl⟩
     refine tb 2 rfl ?_
     refine AWH.one (i := 6) (by kernel_rfl) rfl ?_
     refine C1 rfl ce_28 (E rfl rfl) (evsC (E rfl rfl) (evsC (E rfl rfl) evs0)) (S1 := CB _ _ _ _) (S2 := [_]) rfl (put35 _ _ _ _ [_]) ?_
     rintro t61 S61 ⟨rfl, A61, c61, rfl⟩
     refine tb 2 rfl ?_
     refine AWH.one (i := 10) (by kernel_rfl) rfl ?_
     refine C1 rfl ce_29 (E rfl rfl) (evsC (E rfl rfl) (evsC (E rfl rfl) (evsC (E rfl rfl) evs0))) (S1 := CB _ _ _ _) (S2 := [_]) rfl (two36 _ _ _ _ _ _) ?_
     rintro t65 S65 ⟨rfl, A65, c65, rfl⟩
     refine tb 2 rfl ?_
     refine AWH.one (i := 13) (by kernel_rfl) rfl ?_
     refine C1 rfl ce_30 (E rfl rfl) (evsC (E rfl rfl) (evsC (E rfl rfl) (evsC (E rfl rfl) evs0))) (S1 := CB _ _ _ _) (S2 := [_]) rfl (imm37 _ _ _ _ _ 4) ?_
     rintro t68 S68 ⟨rfl, A68, c68, rfl⟩
     refine tb 2 rfl ?_
     refine AWH.done (by kernel_rfl) ?_
     refine AW.rseq ?_
     refine Y1 (Yv.move rfl eV) ?_
     refine Y1 (Yv.nilChk rfl eV) ?_
     refine Y1 (Yv.fieldBox rfl fo_49_0 eV) ?_
     refine Y1 (Yv.loadBox rfl ag_24 (i := 1) rfl (E rfl rfl) rfl) ?_
     refine Y1 (Yv.assign rfl eV) ?_
     refine Y1 (Yv.assign rfl eV) ?_
     refine nl ?_
     refine AW.drop (List.take_sublist 1 _) ?_
     refine AW.ret (retI (.tmp rfl (.tmp rfl .nil)) ?_)
     rw [if_pos hval]
     refine enc_end ?_
     rw [enc1 (by rw [h20t]; rfl)]
     skip
     try simp only [List.append_assoc]
     rfl
   · exfalso; replace h21f := of_decide_eq_false h21f; omega
  try replace h20f := of_decide_eq_false h20f
  refine AW.rseq ?_
  refine Y1 (Yv.eql rfl eV eV) ?_
  refine Y1 (Yv.assign rfl eV) ?_
  refine nl ?_
  refine AW.cond rfl (fun h22t => ?_) (fun h22f => ?_)
  ·
   try replace h22t := of_decide_eq_true h22t
   refine AW.skip ?_
   refine AW.cond rfl (fun h23t => ?_) (fun h23f => ?_)
   ·
    try replace h23t := of_decide_eq_true h23t
    refine AW.regionH (HeldBox b1 (insVals i)) rfl (tells_box (k := 2) rfl) ?_
    refine AWH.tk (i := 0) rfl rfl rfl (B rfl) (heldAll (freeMove rfl (E rfl rfl))) ?_
    refine AWH.tk (i := 1) rfl rfl rfl (B rfl) (heldAll (freeField rfl fo_23_1 (E rfl rfl))) ?_
    refine AWH.tk (i := 2) rfl rfl rfl (B rfl) (heldLoad rfl ag_3 (E rfl rfl) rfl) ?_
    refine AWH.tk (i := 4) rfl rfl rfl (B rfl) (heldAll (freeMove rfl (E rfl rfl))) ?_
    refine AWH.tk (i := 7) rfl rfl rfl (B rfl) (heldAll (freeMove rfl (E rfl rfl))) ?_
    refine AWH.tk (i := 8) rfl rfl rfl (B rfl) (heldAll (freeField rfl fo_23_1 (E rfl rfl))) ?_
    refine AWH.tk (i := 9) rfl rfl rfl (B rfl) (heldLoad rfl ag_3 (E rfl rfl) rfl) ?_
    refine AWH.tk (i := 11) rfl rfl rfl (B rfl) (heldAll (freeField rfl fo_23_5 (E rfl rfl))) ?_
    refine AWH.tk (i := 12) rfl rfl rfl (B rfl) (heldLoad rfl ag_2 (E rfl rfl) rfl) ?_
    refine AWH.two (i := 3) (j := 5) (by kernel_rfl) rfl rfl ?_ ?_
    ·
     refine C1 rfl ce_27 (E rfl rfl) (evsC (E rfl rfl) (evsC (E rfl rfl) (evsC (E rfl rfl) (evsC (E rfl rfl) evs0)))) (S1 := CB _ _ _ _) (S2 := [_]) rfl (rex34 _ _ _ _ _ _ _) ?_
     rintro t58 S58 ⟨rfl, A58, c58, rfl⟩
     refine tb 2 rfl ?_
     refine AWH.one (i := 5) (by kernel_rfl) rfl ?_
     refine AWL.buildSlice1 rfl rfl (B rfl) rfl el_43 rfl (evsC (E rfl rfl) evs0) (Nat.le_of_ble_eq_true rfl) rfl rfl ?_
     refine tb 2 rfl ?_
     refine AWH.one (i := 6) (by kernel_rfl) rfl ?_
     refine C1 rfl ce_28 (E rfl rfl) (evsC (E rfl rfl) (evsC (E rfl rfl) evs0)) (S1 := CB _ _ _ _) (S2 := [_]) rfl (put35 _ _ _ _ [_]) ?_
     rintro t61 S61 ⟨rfl, A61, c61, rfl⟩
     refine tb 2 rfl ?_
     refine AWH.one (i := 10) (by kernel_rfl) rfl ?_
     refine C1 rfl ce_29 (E rfl rfl) (evsC (E rfl rfl) (evsC (E rfl rfl) (evsC (E rfl rfl) evs0))) (S1 := CB _ _ _ _) (S2 := [_]) rfl (two36 _ _ _ _ _ _) ?_
     rintro t65 S65 ⟨rfl, A65, c65, rfl⟩
     refine tb 2 rfl ?_
     refine AWH.one (i := 13) (by kernel_rfl) rfl ?_
     refine C1 rfl ce_30 (E rfl rfl) (evsC (E rfl rfl) (evsC (E rfl rfl) (evsC (E rfl rfl) evs0))) (S1 := CB _ _ _ _) (S2 := [_]) rfl (imm37 _ _ _ _ _ 4) ?_
     rintro t68 S68 ⟨rfl, A68, c68, rfl⟩
     refine tb 2 rfl ?_
     refine AWH.done (by kernel_rfl) ?_
     refine AW.rseq ?_
     refine Y1 (Yv.move rfl eV) ?_
     refine Y1 (Yv.nilChk rfl eV) ?_
     refine Y1 (Yv.fieldBox rfl fo_49_0 eV) ?_
     refine Y1 (Yv.loadBox rfl ag_24 (i := 1) rfl (E rfl rfl) rfl) ?_
     refine Y1 (Yv.assign rfl eV) ?_
     refine Y1 (Yv.assign rfl eV) ?_
     refine nl ?_
     refine AW.drop (List.take_sublist 1 _) ?_
     refine AW.ret (retI (.tmp rfl (.tmp rfl .nil)) ?_)
     rw [if_pos hval]
     refine enc_end ?_
     rw [enc1 (by rw [h22t]; rfl)]
     skip
     try simp only [List.append_assoc]
     rfl
    ·
     refine AWL.buildSlice1 rfl rfl (B rfl) rfl el_43 rfl (evsC (E rfl rfl) evs0) (Nat.le_of_ble_eq_true rfl) rfl rfl ?_
     refine tb 2 rfl ?_
     refine AWH.one (i := 3) (by kernel_rfl) rfl ?_
     refine C1 rfl ce_27 (E rfl rfl) (evsC (E rfl rfl) (evsC (E rfl rfl) (evsC (E rfl rfl) (evsC (E rfl rfl) evs0)))) (S1 := CB _ _ _ _) (S2 := [_]) rfl (rex34 _ _ _ _ _ _ _) ?_
     rintro t58 S58 ⟨rfl, A58, c58, rfl⟩
     refine tb 2 rfl ?_
     refine AWH.one (i := 6) (by kernel_rfl) rfl ?_
     refine C1 rfl ce_28 (E rfl rfl) (evsC (E rfl rfl) (evsC (E rfl rfl) evs0)) (S1 := CB _ _ _ _) (S2 := [_]) rfl (put35 _ _ _ _ [_]) ?_
     rintro t61 S61 ⟨rfl, A61, c61, rfl⟩
     refine tb 2 rfl ?_
     refine AWH.one (i := 10) (by kernel_rfl) rfl ?_
     refine C1 rfl ce_29 (E rfl rfl) (evsC (E rfl rfl) (evsC (E rfl rfl) (evsC (E rfl rfl) evs0))) (S1 := CB _ _ _ _) (S2 := [_]) rfl (two36 _ _ _ _ _ _) ?_
     rintro t65 S65 ⟨rfl, A65, c65, rfl⟩
     refine tb 2 rfl ?_
     refine AWH.one (i := 13) (by kernel_rfl) rfl ?_
     refine C1 rfl ce_30 (E rfl rfl) (evsC (E rfl rfl) (evsC (E rfl rfl) (evsC (E rfl rfl) evs0))) (S1 := CB _ _ _ _) (S2 := [_]) rfl (imm37 _ _ _ _ _ 4) ?_
     rintro t68 S68 ⟨rfl, A68, c68, rfl⟩
     refine tb 2 rfl ?_
     refine AWH.done (by kernel_rfl) ?_
     refine AW.rseq ?_
     refine Y1 (Yv.move rfl eV) ?_
     refine Y1 (Yv.nilChk rfl eV) ?_
     refine Y1 (Yv.fieldBox rfl fo_49_0 eV) ?_
     refine Y1 (Yv.loadBox rfl ag_24 (i := 1) rfl (E rfl rfl) rfl) ?_
     refine Y1 (Yv.assign rfl eV) ?_
     refine Y1 (Yv.assign rfl eV) ?_
     refine nl ?_
     refine AW.drop (List.take_sublist 1 _) ?_
     refine AW.ret (retI (.tmp rfl (.tmp rfl .nil)) ?_)
     rw [if_pos hval]
     refine enc_end ?_
     rw [enc1 (by rw [h22t]; rfl)]
     skip
     try simp only [List.append_assoc]
     rfl
   · exfalso; replace h23f := of_decide_eq_false h23f; omega
  try replace h22f := of_decide_eq_false h22f
  refine AW.rseq ?_
  refine Y1 (Yv.eql rfl eV eV) ?_
  refine Y1 (Yv.assign rfl eV) ?_
  refine nl ?_
  refine AW.cond rfl (fun h24t => ?_) (fun h24f => ?_)
  ·
   try replace h24t := of_decide_eq_true h24t
   refine AW.skip ?_
   refine AW.cond rfl (fun h25t => ?_) (fun h25f => ?_)
   ·
    try replace h25t := of_decide_eq_true h25t
    refine AW.regionH (HeldBox b1 (insVals i)) rfl (tells_box (k := 2) rfl) ?_
    refine AWH.tk (i := 0) rfl rfl rfl (B rfl) (heldAll (freeMove rfl (E rfl rfl))) ?_
    refine AWH.tk (i := 1) rfl rfl rfl (B rfl) (heldAll (freeField rfl fo_23_1 (E rfl rfl))) ?_
    refine AWH.tk (i := 2) rfl rfl rfl (B rfl) (heldLoad rfl ag_3 (E rfl rfl) rfl) ?_
    refine AWH.tk (i := 4) rfl rfl rfl (B rfl) (heldAll (freeMove rfl (E rfl rfl))) ?_
    refine AWH.tk (i := 7) rfl rfl rfl (B rfl) (heldAll (freeMove rfl (E rfl rfl))) ?_
    refine AWH.tk (i := 8) rfl rfl rfl (B rfl) (heldAll (freeField rfl fo_23_1 (E rfl rfl))) ?_
    refine AWH.tk (i := 9) rfl rfl rfl (B rfl) (heldLoad rfl ag_3 (E rfl rfl) rfl) ?_
    refine AWH.tk (i := 11) rfl rfl rfl (B rfl) (heldAll (freeField rfl fo_23_5 (E rfl rfl))) ?_
    refine AWH.tk (i := 12) rfl rfl rfl (B rfl) (heldLoad rfl ag_2 (E rfl rfl) rfl) ?_
    refine AWH.two (i := 3) (j := 5) (by kernel_rfl) rfl rfl ?_ ?_
    ·
     refine C1 rfl ce_27 (E rfl rfl) (evsC (E rfl rfl) (evsC (E rfl rfl) (evsC (E rfl rfl) (evsC (E rfl rfl) evs0)))) (S1 := CB _ _ _ _) (S2 := [_]) rfl (rex34 _ _ _ _ _ _ _) ?_
     rintro t58 S58 ⟨rfl, A58, c58, rfl⟩
     refine tb 2 rfl ?_
     refine AWH.one (i := 5) (by kernel_rfl) rfl ?_
     refine AWL.buildSlice1 rfl rfl (B rfl) rfl el_43 rfl (evsC (E rfl rfl) evs0) (Nat.le_of_ble_eq_true rfl) rfl rfl ?_
     refine tb 2 rfl ?_
     refine AWH.one (i := 6) (by kernel_rfl) rfl ?_
     refine C1 rfl ce_28 (E rfl rfl) (evsC (E rfl rfl) (evsC (E rfl rfl) evs0)) (S1 := CB _ _ _ _) (S2 := [_]) rfl (put35 _ _ _ _ [_]) ?_
     rintro t61 S61 ⟨rfl, A61, c61, rfl⟩
     refine tb 2 rfl ?_
     refine AWH.one (i := 10) (by kernel_rfl) rfl ?_
     refine C1 rfl ce_29 (E rfl rfl) (evsC (E rfl rfl) (evsC (E rfl rfl) (evsC (E rfl rfl) evs0))) (S1 := CB _ _ _ _) (S2 := [_]) rfl (two36 _ _ _ _ _ _) ?_
     rintro t65 S65 ⟨rfl, A65, c65, rfl⟩
     refine tb 2 rfl ?_
     refine AWH.one (i := 13) (by kernel_rfl) rfl ?_
     refine C1 rfl ce_30 (E rfl rfl) (evsC (E rfl rfl) (evsC (E rfl rfl) (evsC (E rfl rfl) evs0))) (S1 := CB _ _ _ _) (S2 := [_]) rfl (imm37 _ _ _ _ _ 4) ?_
     rintro t68 S68 ⟨rfl, A68, c68, rfl⟩
     refine tb 2 rfl ?_
     refine AWH.done (by kernel_rfl) ?_
     refine AW.rseq ?_
     refine Y1 (Yv.move rfl eV) ?_
     refine Y1 (Yv.nilChk rfl eV) ?_
     refine Y1 (Yv.fieldBox rfl fo_49_0 eV) ?_
     refine Y1 (Yv.loadBox rfl ag_24 (i := 1) rfl (E rfl rfl) rfl) ?_
     refine Y1 (Yv.assign rfl eV) ?_
     refine Y1 (Yv.assign rfl eV) ?_
     refine nl ?_
     refine AW.drop (List.take_sublist 1 _) ?_
     refine AW.ret (retI (.tmp rfl (.tmp rfl .nil)) ?_)
     rw [if_pos hval]
     refine enc_end ?_
     rw [enc1 (by rw [h24t]; rfl)]
     skip
     try simp only [List.append_assoc]
     rfl
    ·
     refine AWL.buildSlice1 rfl rfl (B rfl) rfl el_43 rfl (evsC (E rfl rfl) evs0) (Nat.le_of_ble_eq_true rfl) rfl rfl ?_
     refine tb 2 rfl ?_
     refine AWH.one (i := 3) (by kernel_rfl) rfl ?_
     refine C1 rfl ce_27 (E rfl rfl) (evsC (E rfl rfl) (evsC (E rfl rfl) (evsC (E rfl rfl) (evsC (E rfl rfl) evs0)))) (S1 := CB _ _ _ _) (S2 := [_]) rfl (rex34 _ _ _ _ _ _ _) ?_
     rintro t58 S58 ⟨rfl, A58, c58, rfl⟩
     refine tb 2 rfl ?_
     refine AWH.one (i := 6) (by kernel_rfl) rfl ?_
     refine C1 rfl ce_28 (E rfl rfl) (evsC (E rfl rfl) (evsC (E rfl rfl) evs0)) (S1 := CB _ _ _ _) (S2 := [_]) rfl (put35 _ _ _ _ [_]) ?_
     rintro t61 S61 ⟨rfl, A61, c61, rfl⟩
     refine tb 2 rfl ?_
     refine AWH.one (i := 10) (by kernel_rfl) rfl ?_
     refine C1 rfl ce_29 (E rfl rfl) (evsC (E rfl rfl) (evsC (E rfl rfl) (evsC (E rfl rfl) evs0))) (S1 := CB _ _ _ _) (S2 := [_]) rfl (two36 _ _ _ _ _ _) ?_
     rintro t65 S65 ⟨rfl, A65, c65, rfl⟩
     refine tb 2 rfl ?_
     refine AWH.one (i := 13) (by kernel_rfl) rfl ?_
     refine C1 rfl ce_30 (E rfl rfl) (evsC (E rfl rfl) (evsC (E rfl rfl) (evsC (E rfl rfl) evs0))) (S1 := CB _ _ _ _) (S2 := [_]) rfl (imm37 _ _ _ _ _ 4) ?_
     rintro t68 S68 ⟨rfl, A68, c68, rfl⟩
     refine tb 2 rfl ?_
     refine AWH.done (by kernel_rfl) ?_
     refine AW.rseq ?_
     refine Y1 (Yv.move rfl eV) ?_
     refine Y1 (Yv.nilChk rfl eV) ?_
     refine Y1 (Yv.fieldBox rfl fo_49_0 eV) ?_
     refine Y1 (Yv.loadBox rfl ag_24 (i := 1) rfl (E rfl rfl) rfl) ?_
     refine Y1 (Yv.assign rfl eV) ?_
     refine Y1 (Yv.assign rfl eV) ?_
     refine nl ?_
     refine AW.drop (List.take_sublist 1 _) ?_
     refine AW.ret (retI (.tmp rfl (.tmp rfl .nil)) ?_)
     rw [if_pos hval]
     refine enc_end ?_
     rw [enc1 (by rw [h24t]; rfl)]
     skip
     try simp only [List.append_assoc]
     rfl
   · exfalso; replace h25f := of_decide_eq_false h25f; omega
  try replace h24f := of_decide_eq_false h24f
  refine AW.rseq ?_
  refine Y1 (Yv.eql rfl eV eV) ?_
  refine Y1 (Yv.assign rfl eV) ?_
  refine nl ?_
  refine AW.cond rfl (fun h26t => ?_) (fun h26f => ?_)
  ·
   try replace h26t := of_decide_eq_true h26t
   refine AW.skip ?_
   refine AW.cond rfl (fun h27t => ?_) (fun h27f => ?_)
   ·
    try replace h27t := of_decide_eq_true h27t
    refine AW.regionH (HeldBox b1 (insVals i)) rfl (tells_box (k := 2) rfl) ?_
    refine AWH.tk (i := 0) rfl rfl rfl (B rfl) (heldAll (freeMove rfl (E rfl rfl))) ?_
    refine AWH.tk (i := 1) rfl rfl rfl (B rfl) (heldAll (freeField rfl fo_23_1 (E rfl rfl))) ?_
    refine AWH.tk (i := 2) rfl rfl rfl (B rfl) (heldLoad rfl ag_3 (E rfl rfl) rfl) ?_
    refine AWH.tk (i := 4) rfl rfl rfl (B rfl) (heldAll (freeMove rfl (E rfl rfl))) ?_
    refine AWH.tk (i := 7) rfl rfl rfl (B rfl) (heldAll (freeMove rfl (E rfl rfl))) ?_
    refine AWH.tk (i := 8) rfl rfl rfl (B rfl) (heldAll (freeField rfl fo_23_1 (E rfl rfl))) ?_
    refine AWH.tk (i := 9) rfl rfl rfl (B rfl) (heldLoad rfl ag_3 (E rfl rfl) rfl) ?_
    refine AWH.tk (i := 11) rfl rfl rfl (B rfl) (heldAll (freeField rfl fo_23_5 (E rfl rfl))) ?_
    refine AWH.tk (i := 12) rfl rfl rfl (B rfl) (heldLoad rfl ag_2 (E rfl rfl) rfl) ?_
    refine AWH.two (i := 3) (j := 5) (by kernel_rfl) rfl rfl ?_ ?_
    ·
     refine C1 rfl ce_27 (E rfl rfl) (evsC (E rfl rfl) (evsC (E rfl rfl) (evsC (E rfl rfl) (evsC (E rfl rfl) evs0)))) (S1 := CB _ _ _ _) (S2 := [_]) rfl (rex34 _ _ _ _ _ _ _) ?_
     rintro t58 S58 ⟨rfl, A58, c58, rfl⟩
     refine tb 2 rfl ?_
     refine AWH.one (i := 5) (by kernel_rfl) rfl ?_
     refine AWL.buildSlice1 rfl rfl (B rfl) rfl el_43 rfl (evsC (E rfl rfl) evs0) (Nat.le_of_ble_eq_true rfl) rfl rfl ?_
     refine tb 2 rfl ?_
     refine AWH.one (i := 6) (by kernel_rfl) rfl ?_
     refine C1 rfl ce_28 (E rfl rfl) (evsC (E rfl rfl) (evsC (E rfl rfl) evs0)) (S1 := CB _ _ _ _) (S2 := [_]) rfl (put35 _ _ _ _ [_]) ?_
     rintro t61 S61 ⟨rfl, A61, c61, rfl⟩
     refine tb 2 rfl ?_
     refine AWH.one (i := 10) (by kernel_rfl) rfl ?_
     refine C1 rfl ce_29 (E rfl rfl) (evsC (E rfl rfl) (evsC (E rfl rfl) (evsC (E rfl rfl) evs0))) (S1 := CB _ _ _ _) (S2 := [_]) rfl (two36 _ _ _ _ _ _) ?_
     rintro t65 S65 ⟨rfl, A65, c65, rfl⟩
     refine tb 2 rfl ?_
     refine AWH.one (i := 13) (by kernel_rfl) rfl ?_
     refine C1 rfl ce_30 (E rfl rfl) (evsC (E rfl rfl) (evsC (E rfl rfl) (evsC (E rfl rfl) evs0))) (S1 := CB _ _ _ _) (S2 := [_]) rfl (imm37 _ _ _ _ _ 4) ?_
     rintro t68 S68 ⟨rfl, A68, c68, rfl⟩
     refine tb 2 rfl ?_
     refine AWH.done (by kernel_rfl) ?_
     refine AW.rseq ?_
     refine Y1 (Yv.move rfl eV) ?_
     refine Y1 (Yv.nilChk rfl eV) ?_
     refine Y1 (Yv.fieldBox rfl fo_49_0 eV) ?_
     refine Y1 (Yv.loadBox rfl ag_24 (i := 1) rfl (E rfl rfl) rfl) ?_
     refine Y1 (Yv.assign rfl eV) ?_
     refine Y1 (Yv.assign rfl eV) ?_
     refine nl ?_
     refine AW.drop (List.take_sublist 1 _) ?_
     refine AW.ret (retI (.tmp rfl (.tmp rfl .nil)) ?_)
     rw [if_pos hval]
     refine enc_end ?_
     rw [enc1 (by rw [h26t]; rfl)]
     skip
     try simp only [List.append_assoc]
     rfl
    ·
     refine AWL.buildSlice1 rfl rfl (B rfl) rfl el_43 rfl (evsC (E rfl rfl) evs0) (Nat.le_of_ble_eq_true rfl) rfl rfl ?_
     refine tb 2 rfl ?_
     refine AWH.one (i := 3) (by kernel_rfl) rfl ?_
     refine C1 rfl ce_27 (E rfl rfl) (evsC (E rfl rfl) (evsC (E rfl rfl) (evsC (E rfl rfl) (evsC (E rfl rfl) evs0)))) (S1 := CB _ _ _ _) (S2 := [_]) rfl (rex34 _ _ _ _ _ _ _) ?_
     rintro t58 S58 ⟨rfl, A58, c58, rfl⟩
     refine tb 2 rfl ?_
     refine AWH.one (i := 6) (by kernel_rfl) rfl ?_
     refine C1 rfl ce_28 (E rfl rfl) (evsC (E rfl rfl) (evsC (E rfl rfl) evs0)) (S1 := CB _ _ _ _) (S2 := [_]) rfl (put35 _ _ _ _ [_]) ?_
     rintro t61 S61 ⟨rfl, A61, c61, rfl⟩
     refine tb 2 rfl ?_
     refine AWH.one (i := 10) (by kernel_rfl) rfl ?_
     refine C1 rfl ce_29 (E rfl rfl) (evsC (E rfl rfl) (evsC (E rfl rfl) (evsC (E rfl rfl) evs0))) (S1 := CB _ _ _ _) (S2 := [_]) rfl (two36 _ _ _ _ _ _) ?_
     rintro t65 S65 ⟨rfl, A65, c65, rfl⟩
     refine tb 2 rfl ?_
     refine AWH.one (i := 13) (by kernel_rfl) rfl ?_
     refine C1 rfl ce_30 (E rfl rfl) (evsC (E rfl rfl) (evsC (E rfl rfl) (evsC (E rfl rfl) evs0))) (S1 := CB _ _ _ _) (S2 := [_]) rfl (imm37 _ _ _ _ _ 4) ?_
     rintro t68 S68 ⟨rfl, A68, c68, rfl⟩
     refine tb 2 rfl ?_
     refine AWH.done (by kernel_rfl) ?_
     refine AW.rseq ?_
     refine Y1 (Yv.move rfl eV) ?_
     refine Y1 (Yv.nilChk rfl eV) ?_
     refine Y1 (Yv.fieldBox rfl fo_49_0 eV) ?_
     refine Y1 (Yv.loadBox rfl ag_24 (i := 1) rfl (E rfl rfl) rfl) ?_
     refine Y1 (Yv.assign rfl eV) ?_
     refine Y1 (Yv.assign rfl eV) ?_
     refine nl ?_
     refine AW.drop (List.take_sublist 1 _) ?_
     refine AW.ret (retI (.tmp rfl (.tmp rfl .nil)) ?_)
     rw [if_pos hval]
     refine enc_end ?_
     rw [enc1 (by rw [h26t]; rfl)]
     skip
     try simp only [List.append_assoc]
     rfl
   · exfalso; replace h27f := of_decide_eq_false h27f; omega
  try replace h26f := of_decide_eq_false h26f
  refine AW.rseq ?_
  refine Y1 (Yv.eql rfl eV eV) ?_
  refine Y1 (Yv.assign rfl eV) ?_
  refine nl ?_
  refine AW.cond rfl (fun h28t => ?_) (fun h28f => ?_)
  ·
   try replace h28t := of_decide_eq_true h28t
   refine AW.skip ?_
   refine AW.cond rfl (fun h29t => ?_) (fun h29f => ?_)
   ·
    try replace h29t := of_decide_eq_true h29t
    refine AW.regionH (HeldBox b1 (insVals i)) rfl (tells_box (k := 2) rfl) ?_
    refine AWH.tk (i := 0) rfl rfl rfl (B rfl) (heldAll (freeMove rfl (E rfl rfl))) ?_
    refine AWH.tk (i := 1) rfl rfl rfl (B rfl) (heldAll (freeField rfl fo_23_1 (E rfl rfl))) ?_
    refine AWH.tk (i := 2) rfl rfl rfl (B rfl) (heldLoad rfl ag_3 (E rfl rfl) rfl) ?_
    refine AWH.tk (i := 4) rfl rfl rfl (B rfl) (heldAll (freeMove rfl (E rfl rfl))) ?_
    refine AWH.tk (i := 7) rfl rfl rfl (B rfl) (heldAll (freeMove rfl (E rfl rfl))) ?_
    refine AWH.tk (i := 8) rfl rfl rfl (B rfl) (heldAll (freeField rfl fo_23_1 (E rfl rfl))) ?_
    refine AWH.tk (i := 9) rfl rfl rfl (B rfl) (heldLoad rfl ag_3 (E rfl rfl) rfl) ?_
    refine AWH.tk (i := 11) rfl rfl rfl (B rfl) (heldAll (freeField rfl fo_23_5 (E rfl rfl))) ?_
    refine AWH.tk (i := 12) rfl rfl rfl (B rfl) (heldLoad rfl ag_2 (E rfl rfl) rfl) ?_
    refine AWH.two (i := 3) (j := 5) (by kernel_rfl) rfl rfl ?_ ?_
    ·
     refine C1 rfl ce_27 (E rfl rfl) (evsC (E rfl rfl) (evsC (E rfl rfl) (evsC (E rfl rfl) (evsC (E rfl rfl) evs0)))) (S1 := CB _ _ _ _) (S2 := [_]) rfl (rex34 _ _ _ _ _ _ _) ?_
     rintro t58 S58 ⟨rfl, A58, c58, rfl⟩
     refine tb 2 rfl ?_
     refine AWH.one (i := 5) (by kernel_rfl) rfl ?_
     refine AWL.buildSlice1 rfl rfl (B rfl) rfl el_43 rfl (evsC (E rfl rfl) evs0) (Nat.le_of_ble_eq_true rfl) rfl rfl ?_
     refine tb 2 rfl ?_
     refine AWH.one (i := 6) (by kernel_rfl) rfl ?_
     refine C1 rfl ce_28 (E rfl rfl) (evsC (E rfl rfl) (evsC (E rfl rfl) evs0)) (S1 := CB _ _ _ _) (S2 := [_]) rfl (put35 _ _ _ _ [_]) ?_
     rintro t61 S61 ⟨rfl, A61, c61, rfl⟩
     refine tb 2 rfl ?_
     refine AWH.one (i := 10) (by kernel_rfl) rfl ?_
     refine C1 rfl ce_29 (E rfl rfl) (evsC (E rfl rfl) (evsC (E rfl rfl) (evsC (E rfl rfl) evs0))) (S1 := CB _ _ _ _) (S2 := [_]) rfl (two36 _ _ _ _ _ _) ?_
     rintro t65 S65 ⟨rfl, A65, c65, rfl⟩
     refine tb 2 rfl ?_
     refine AWH.one (i := 13) (by kernel_rfl) rfl ?_
     refine C1 rfl ce_30 (E rfl rfl) (evsC (E rfl rfl) (evsC (E rfl rfl) (evsC (E rfl rfl) evs0))) (S1 := CB _ _ _ _) (S2 := [_]) rfl (imm37 _ _ _ _ _ 4) ?_
     rintro t68 S68 ⟨rfl, A68, c68, rfl⟩
     refine tb 2 rfl ?_
     refine AWH.done (by kernel_rfl) ?_
     refine AW.rseq ?_
     refine Y1 (Yv.move rfl eV) ?_
     refine Y1 (Yv.nilChk rfl eV) ?_
     refine Y1 (Yv.fieldBox rfl fo_49_0 eV) ?_
     refine Y1 (Yv.loadBox rfl ag_24 (i := 1) rfl (E rfl rfl) rfl) ?_
     refine Y1 (Yv.assign rfl eV) ?_
     refine Y1 (Yv.assign rfl eV) ?_
     refine nl ?_
     refine AW.drop (List.take_sublist 1 _) ?_
     refine AW.ret (retI (.tmp rfl (.tmp rfl .nil)) ?_)
     rw [if_pos hval]
     refine enc_end ?_
     rw [enc1 (by rw [h28t]; rfl)]
     skip
     try simp only [List.append_assoc]
     rfl
    ·
     refine AWL.buildSlice1 rfl rfl (B rfl) rfl el_43 rfl (evsC (E rfl rfl) evs0) (Nat.le_of_ble_eq_true rfl) rfl rfl ?_
     refine tb 2 rfl ?_
     refine AWH.one (i := 3) (by kernel_rfl) rfl ?_
     refine C1 rfl ce_27 (E rfl rfl) (evsC (E rfl rfl) (evsC (E rfl rfl) (evsC (E rfl rfl) (evsC (E rfl rfl) evs0)))) (S1 := CB _ _ _ _) (S2 := [_]) rfl (rex34 _ _ _ _ _ _ _) ?_
     rintro t58 S58 ⟨rfl, A58, c58, rfl⟩
     refine tb 2 rfl ?_
     refine AWH.one (i := 6) (by kernel_rfl) rfl ?_
     refine C1 rfl ce_28 (E rfl rfl) (evsC (E rfl rfl) (evsC (E rfl rfl) evs0)) (S1 := CB _ _ _ _) (S2 := [_]) rfl (put35 _ _ _ _ [_]) ?_
     rintro t61 S61 ⟨rfl, A61, c61, rfl⟩
     refine tb 2 rfl ?_
     refine AWH.one (i := 10) (by kernel_rfl) rfl ?_
     refine C1 rfl ce_29 (E rfl rfl) (evsC (E rfl rfl) (evsC (E rfl rfl) (evsC (E rfl rfl) evs0))) (S1 := CB _ _ _ _) (S2 := [_]) rfl (two36 _ _ _ _ _ _) ?_
     rintro t65 S65 ⟨rfl, A65, c65, rfl⟩
     refine tb 2 rfl ?_
     refine AWH.one (i := 13) (by kernel_rfl) rfl ?_
     refine C1 rfl ce_30 (E rfl rfl) (evsC (E rfl rfl) (evsC (E rfl rfl) (evsC (E rfl rfl) evs0))) (S1 := CB _ _ _ _) (S2 := [_]) rfl (imm37 _ _ _ _ _ 4) ?_
     rintro t68 S68 ⟨rfl, A68, c68, rfl⟩
     refine tb 2 rfl ?_
     refine AWH.done (by kernel_rfl) ?_
     refine AW.rseq ?_
     refine Y1 (Yv.move rfl eV) ?_
     refine Y1 (Yv.nilChk rfl eV) ?_
     refine Y1 (Yv.fieldBox rfl fo_49_0 eV) ?_
     refine Y1 (Yv.loadBox rfl ag_24 (i := 1) rfl (E rfl rfl) rfl) ?_
     refine Y1 (Yv.assign rfl eV) ?_
     refine Y1 (Yv.assign rfl eV) ?_
     refine nl ?_
     refine AW.drop (List.take_sublist 1 _) ?_
     refine AW.ret (retI (.tmp rfl (.tmp rfl .nil)) ?_)
     rw [if_pos hval]
     refine enc_end ?_
     rw [enc1 (by rw [h28t]; rfl)]
     skip
     try simp only [List.append_assoc]
     rfl
   · exfalso; replace h29f := of_decide_eq_false h29f; omega
  try replace h28f := of_decide_eq_false h28f
  refine AW.region ?_
  refine Y1 (Yv.eql rfl eV eV) ?_
  refine Y1 (Yv.assign rfl eV) ?_
  refine nl ?_
  refine AW.cond rfl (fun h30t => ?_) (fun h30f => ?_)
  ·
   try replace h30t := of_decide_eq_true h30t
   refine AW.regionH (HeldBox b1 (insVals i)) rfl (tells_box (k := 2) rfl) ?_
   refine AWH.tk (i := 0) rfl rfl rfl (B rfl) (heldAll (freeMove rfl (E rfl rfl))) ?_
   refine AWH.tk (i := 1) rfl rfl rfl (B rfl) (heldAll (freeField rfl fo_23_1 (E rfl rfl))) ?_
   refine AWH.tk (i := 2) rfl rfl rfl (B rfl) (heldLoad rfl ag_3 (E rfl rfl) rfl) ?_
   refine AWH.tk (i := 4) rfl rfl rfl (B rfl) (heldAll (freeMove rfl (E rfl rfl))) ?_
   refine AWH.tk (i := 7) rfl rfl rfl (B rfl) (heldAll (freeMove rfl (E rfl rfl))) ?_
   refine AWH.tk (i := 8) rfl rfl rfl (B rfl) (heldAll (freeField rfl fo_23_1 (E rfl rfl))) ?_
   refine AWH.tk (i := 9) rfl rfl rfl (B rfl) (heldLoad rfl ag_3 (E rfl rfl) rfl) ?_
   refine AWH.tk (i := 11) rfl rfl rfl (B rfl) (heldAll (freeField rfl fo_23_5 (E rfl rfl))) ?_
   refine AWH.tk (i := 12) rfl rfl rfl (B rfl) (heldLoad rfl ag_2 (E rfl rfl) rfl) ?_
   refine AWH.two (i := 3) (j := 5) (by kernel_rfl) rfl rfl ?_ ?_
   ·
    refine C1 rfl ce_27 (E rfl rfl) (evsC (E rfl rfl) (evsC (E rfl rfl) (evsC (E rfl rfl) (evsC (E rfl rfl) evs0)))) (S1 := CB _ _ _ _) (S2 := [_]) rfl (rex34 _ _ _ _ _ _ _) ?_
    rintro t58 S58 ⟨rfl, A58, c58, rfl⟩
    refine tb 2 rfl ?_
    refine AWH.one (i := 5) (by kernel_rfl) rfl ?_
    refine AWL.buildSlice1 rfl rfl (B rfl) rfl el_43 rfl (evsC (E rfl rfl) evs0) (Nat.le_of_ble_eq_true rfl) rfl rfl ?_
    refine tb 2 rfl ?_
    refine AWH.one (i := 6) (by kernel_rfl) rfl ?_
    refine C1 rfl ce_28 (E rfl rfl) (evsC (E rfl rfl) (evsC (E rfl rfl) evs0)) (S1 := CB _ _ _ _) (S2 := [_]) rfl (put35 _ _ _ _ [_]) ?_
    rintro t61 S61 ⟨rfl, A61, c61, rfl⟩
    refine tb 2 rfl ?_
    refine AWH.one (i := 10) (by kernel_rfl) rfl ?_
    refine C1 rfl ce_29 (E rfl rfl) (evsC (E rfl rfl) (evsC (E rfl rfl) (evsC (E rfl rfl) evs0))) (S1 := CB _ _ _ _) (S2 := [_]) rfl (two36 _ _ _ _ _ _) ?_
    rintro t65 S65 ⟨rfl, A65, c65, rfl⟩
    refine tb 2 rfl ?_
    refine AWH.one (i := 13) (by kernel_rfl) rfl ?_
    refine C1 rfl ce_30 (E rfl rfl) (evsC (E rfl rfl) (evsC (E rfl rfl) (evsC (E rfl rfl) evs0))) (S1 := CB _ _ _ _) (S2 := [_]) rfl (imm37 _ _ _ _ _ 4) ?_
    rintro t68 S68 ⟨rfl, A68, c68, rfl⟩
    refine tb 2 rfl ?_
    refine AWH.done (by kernel_rfl) ?_
    refine AW.rseq ?_
    refine Y1 (Yv.move rfl eV) ?_
    refine Y1 (Yv.nilChk rfl eV) ?_
    refine Y1 (Yv.fieldBox rfl fo_49_0 eV) ?_
    refine Y1 (Yv.loadBox rfl ag_24 (i := 1) rfl (E rfl rfl) rfl) ?_
    refine Y1 (Yv.assign rfl eV) ?_
    refine Y1 (Yv.assign rfl eV) ?_
    refine nl ?_
    refine AW.drop (List.take_sublist 1 _) ?_
    refine AW.ret (retI (.tmp rfl (.tmp rfl .nil)) ?_)
    rw [if_pos hval]
    refine enc_end ?_
    rw [enc1 (by rw [h30t]; rfl)]
    skip
    try simp only [List.append_assoc]
    rfl
   ·
    refine AWL.buildSlice1 rfl rfl (B rfl) rfl el_43 rfl (evsC (E rfl rfl) evs0) (Nat.le_of_ble_eq_true rfl) rfl rfl ?_
    refine tb 2 rfl ?_
    refine AWH.one (i := 3) (by kernel_rfl) rfl ?_
    refine C1 rfl ce_27 (E rfl rfl) (evsC (E rfl rfl) (evsC (E rfl rfl) (evsC (E rfl rfl) (evsC (E rfl rfl) evs0)))) (S1 := CB _ _ _ _) (S2 := [_]) rfl (rex34 _ _ _ _ _ _ _) ?_
    rintro t58 S58 ⟨rfl, A58, c58, rfl⟩
    refine tb 2 rfl ?_
    refine AWH.one (i := 6) (by kernel_rfl) rfl ?_
    refine C1 rfl ce_28 (E rfl rfl) (evsC (E rfl rfl) (evsC (E rfl rfl) evs0)) (S1 := CB _ _ _ _) (S2 := [_]) rfl (put35 _ _ _ _ [_]) ?_
    rintro t61 S61 ⟨rfl, A61, c61, rfl⟩
    refine tb 2 rfl ?_
    refine AWH.one (i := 10) (by kernel_rfl) rfl ?_
    refine C1 rfl ce_29 (E rfl rfl) (evsC (E rfl rfl) (evsC (E rfl rfl) (evsC (E rfl rfl) evs0))) (S1 := CB _ _ _ _) (S2 := [_]) rfl (two36 _ _ _ _ _ _) ?_
    rintro t65 S65 ⟨rfl, A65, c65, rfl⟩
    refine tb 2 rfl ?_
    refine AWH.one (i := 13) (by kernel_rfl) rfl ?_
    refine C1 rfl ce_30 (E rfl rfl) (evsC (E rfl rfl) (evsC (E rfl rfl) (evsC (E rfl rfl) evs0))) (S1 := CB _ _ _ _) (S2 := [_]) rfl (imm37 _ _ _ _ _ 4) ?_
    rintro t68 S68 ⟨rfl, A68, c68, rfl⟩
    refine tb 2 rfl ?_
    refine AWH.done (by kernel_rfl) ?_
    refine AW.rseq ?_
    refine Y1 (Yv.move rfl eV) ?_
    refine Y1 (Yv.nilChk rfl eV) ?_
    refine Y1 (Yv.fieldBox rfl fo_49_0 eV) ?_
    refine Y1 (Yv.loadBox rfl ag_24 (i := 1) rfl (E rfl rfl) rfl) ?_
    refine Y1 (Yv.assign rfl eV) ?_
    refine Y1 (Yv.assign rfl eV) ?_
    refine nl ?_
    refine AW.drop (List.take_sublist 1 _) ?_
    refine AW.ret (retI (.tmp rfl (.tmp rfl .nil)) ?_)
    rw [if_pos hval]
    refine enc_end ?_
    rw [enc1 (by rw [h30t]; rfl)]
    skip
    try simp only [List.append_assoc]
    rfl
  try replace h30f := of_decide_eq_false h30f
  refine AW.seq ?_
  refine AW.rseq ?_
  refine Y1 (Yv.eql rfl eV eV) ?_
  refine Y1 (Yv.assign rfl eV) ?_
  refine nl ?_
  refine AW.cond rfl (fun h31t => ?_) (fun h31f => ?_)
  ·
   try replace h31t := of_decide_eq_true h31t
   refine AW.skip ?_
   refine AW.cond rfl (fun h32t => ?_) (fun h32f => ?_)
   ·
    try replace h32t := of_decide_eq_true h32t
    refine AW.regionH (HeldBox b1 (insVals i)) rfl (tells_box (k := 2) rfl) ?_
    refine AWH.tk (i := 0) rfl rfl rfl (B rfl) (heldAll (freeMove rfl (E rfl rfl))) ?_
    refine AWH.tk (i := 1) rfl rfl rfl (B rfl) (heldAll (freeField rfl fo_23_1 (E rfl rfl))) ?_
    refine AWH.tk (i := 2) rfl rfl rfl (B rfl) (heldLoad rfl ag_3 (E rfl rfl) rfl) ?_
    refine AWH.tk (i := 4) rfl rfl rfl (B rfl) (heldAll (freeMove rfl (E rfl rfl))) ?_
    refine AWH.tk (i := 7) rfl rfl rfl (B rfl) (heldAll (freeMove rfl (E rfl rfl))) ?_
    refine AWH.tk (i := 8) rfl rfl rfl (B rfl) (heldAll (freeField rfl fo_23_1 (E rfl rfl))) ?_
    refine AWH.tk (i := 9) rfl rfl rfl (B rfl) (heldLoad rfl ag_3 (E rfl rfl) rfl) ?_
    refine AWH.two (i := 3) (j := 5) (by kernel_rfl) rfl rfl ?_ ?_
    ·
     refine C1 rfl ce_27 (E rfl rfl) (evsC (E rfl rfl) (evsC (E rfl rfl) (evsC (E rfl rfl) (evsC (E rfl rfl) evs0)))) (S1 := CB _ _ _ _) (S2 := [_]) rfl (rex34 _ _ _ _ _ _ _) ?_
     rintro t80 S80 ⟨rfl, A80, c80, rfl⟩
     refine tb 2 rfl ?_
     refine AWH.one (i := 5) (by kernel_rfl) rfl ?_
     refine AWL.buildSlice1 rfl rfl (B rfl) rfl el_43 rfl (evsC (E rfl rfl) evs0) (Nat.le_of_ble_eq_true rfl) rfl rfl ?_
     refine tb 2 rfl ?_
     refine AWH.one (i := 6) (by kernel_rfl) rfl ?_
     refine C1 rfl ce_28 (E rfl rfl) (evsC (E rfl rfl) (evsC (E rfl rfl) evs0)) (S1 := CB _ _ _ _) (S2 := [_]) rfl (put35 _ _ _ _ [_]) ?_
     rintro t83 S83 ⟨rfl, A83, c83, rfl⟩
     refine tb 2 rfl ?_
     refine AWH.one (i := 10) (by kernel_rfl) rfl ?_
     refine C1 rfl ce_29 (E rfl rfl) (evsC (E rfl rfl) (evsC (E rfl rfl) (evsC (E rfl rfl) evs0))) (S1 := CB _ _ _ _) (S2 := [_]) rfl (two36 _ _ _ _ _ _) ?_
     rintro t87 S87 ⟨rfl, A87, c87, rfl⟩
     refine tb 2 rfl ?_
     refine AWH.done (by kernel_rfl) ?_
     refine AW.rseq ?_
     refine Y1 (Yv.move rfl eV) ?_
     refine Y1 (Yv.nilChk rfl eV) ?_
     refine Y1 (Yv.fieldBox rfl fo_49_0 eV) ?_
     refine Y1 (Yv.loadBox rfl ag_24 (i := 1) rfl (E rfl rfl) rfl) ?_
     refine Y1 (Yv.assign rfl eV) ?_
     refine Y1 (Yv.assign rfl eV) ?_
     refine nl ?_
     refine AW.drop (List.take_sublist 1 _) ?_
     refine AW.ret (retI (.tmp rfl (.tmp rfl .nil)) ?_)
     rw [if_pos hval]
     refine enc_end ?_
     rw [enc2 (by rw [h31t]; rfl)]
     skip
     try simp only [List.append_assoc]
     rfl
    ·
     refine AWL.buildSlice1 rfl rfl (B rfl) rfl el_43 rfl (evsC (E rfl rfl) evs0) (Nat.le_of_ble_eq_true rfl) rfl rfl ?_
     refine tb 2 rfl ?_
     refine AWH.one (i := 3) (by kernel_rfl) rfl ?_
     refine C1 rfl ce_27 (E rfl rfl) (evsC (E rfl rfl) (evsC (E rfl rfl) (evsC (E rfl rfl) (evsC (E rfl rfl) evs0)))) (S1 := CB _ _ _ _) (S2 := [_]) rfl (rex34 _ _ _ _ _ _ _) ?_
     rintro t80 S80 ⟨rfl, A80, c80, rfl⟩
     refine tb 2 rfl ?_
     refine AWH.one (i := 6) (by kernel_rfl) rfl ?_
     refine C1 rfl ce_28 (E rfl rfl) (evsC (E rfl rfl) (evsC (E rfl rfl) evs0)) (S1 := CB _ _ _ _) (S2 := [_]) rfl (put35 _ _ _ _ [_]) ?_
     rintro t83 S83 ⟨rfl, A83, c83, rfl⟩
     refine tb 2 rfl ?_
     refine AWH.one (i := 10) (by kernel_rfl) rfl ?_
     refine C1 rfl ce_29 (E rfl rfl) (evsC (E rfl rfl) (evsC (E rfl rfl) (evsC (E rfl rfl) evs0))) (S1 := CB _ _ _ _) (S2 := [_]) rfl (two36 _ _ _ _ _ _) ?_
     rintro t87 S87 ⟨rfl, A87, c87, rfl⟩
     refine tb 2 rfl ?_
     refine AWH.done (by kernel_rfl) ?_
     refine AW.rseq ?_
     refine Y1 (Yv.move rfl eV) ?_
     refine Y1 (Yv.nilChk rfl eV) ?_
     refine Y1 (Yv.fieldBox rfl fo_49_0 eV) ?_
     refine Y1 (Yv.loadBox rfl ag_24 (i := 1) rfl (E rfl rfl) rfl) ?_
     refine Y1 (Yv.assign rfl eV) ?_
     refine Y1 (Yv.assign rfl eV) ?_
     refine nl ?_
     refine AW.drop (List.take_sublist 1 _) ?_
     refine AW.ret (retI (.tmp rfl (.tmp rfl .nil)) ?_)
     rw [if_pos hval]
     refine enc_end ?_
     rw [enc2 (by rw [h31t]; rfl)]
     skip
     try simp only [List.append_assoc]
     rfl
   · exfalso; replace h32f := of_decide_eq_false h32f; omega
  try replace h31f := of_decide_eq_false h31f
  refine AW.rseq ?_
  refine Y1 (Yv.eql rfl eV eV) ?_
  refine Y1 (Yv.assign rfl eV) ?_
  refine nl ?_
  refine AW.cond rfl (fun h33t => ?_) (fun h33f => ?_)
  ·
   try replace h33t := of_decide_eq_true h33t
   refine AW.skip ?_
   refine AW.cond rfl (fun h34t => ?_) (fun h34f => ?_)
   ·
    try replace h34t := of_decide_eq_true h34t
    refine AW.regionH (HeldBox b1 (insVals i)) rfl (tells_box (k := 2) rfl) ?_
    refine AWH.tk (i := 0) rfl rfl rfl (B rfl) (heldAll (freeMove rfl (E rfl rfl))) ?_
    refine AWH.tk (i := 1) rfl rfl rfl (B rfl) (heldAll (freeField rfl fo_23_1 (E rfl rfl))) ?_
    refine AWH.tk (i := 2) rfl rfl rfl (B rfl) (heldLoad rfl ag_3 (E rfl rfl) rfl) ?_
    refine AWH.tk (i := 4) rfl rfl rfl (B rfl) (heldAll (freeMove rfl (E rfl rfl))) ?_
    refine AWH.tk (i := 7) rfl rfl rfl (B rfl) (heldAll (freeMove rfl (E rfl rfl))) ?_
    refine AWH.tk (i := 8) rfl rfl rfl (B rfl) (heldAll (freeField rfl fo_23_1 (E rfl rfl))) ?_
    refine AWH.tk (i := 9) rfl rfl rfl (B rfl) (heldLoad rfl ag_3 (E rfl rfl) rfl) ?_
    refine AWH.two (i := 3) (j := 5) (by kernel_rfl) rfl rfl ?_ ?_
    ·
     refine C1 rfl ce_27 (E rfl rfl) (evsC (E rfl rfl) (evsC (E rfl rfl) (evsC (E rfl rfl) (evsC (E rfl rfl) evs0)))) (S1 := CB _ _ _ _) (S2 := [_]) rfl (rex34 _ _ _ _ _ _ _) ?_
     rintro t80 S80 ⟨rfl, A80, c80, rfl⟩
     refine tb 2 rfl ?_
     refine AWH.one (i := 5) (by kernel_rfl) rfl ?_
     refine AWL.buildSlice1 rfl rfl (B rfl) rfl el_43 rfl (evsC (E rfl rfl) evs0) (Nat.le_of_ble_eq_true rfl) rfl rfl ?_
     refine tb 2 rfl ?_
     refine AWH.one (i := 6) (by kernel_rfl) rfl ?_
     refine C1 rfl ce_28 (E rfl rfl) (evsC (E rfl rfl) (evsC (E rfl rfl) evs0)) (S1 := CB _ _ _ _) (S2 := [_]) rfl (put35 _ _ _ _ [_]) ?_
     rintro t83 S83 ⟨rfl, A83, c83, rfl⟩
     refine tb 2 rfl ?_
     refine AWH.one (i := 10) (by kernel_rfl) rfl ?_
     refine C1 rfl ce_29 (E rfl rfl) (evsC (E rfl rfl) (evsC (E rfl rfl) (evsC (E rfl rfl) evs0))) (S1 := CB _ _ _ _) (S2 := [_]) rfl (two36 _ _ _ _ _ _) ?_
     rintro t87 S87 ⟨rfl, A87, c87, rfl⟩
     refine tb 2 rfl ?_
     refine AWH.done (by kernel_rfl) ?_
     refine AW.rseq ?_
     refine Y1 (Yv.move rfl eV) ?_
     refine Y1 (Yv.nilChk rfl eV) ?_
     refine Y1 (Yv.fieldBox rfl fo_49_0 eV) ?_
     refine Y1 (Yv.loadBox rfl ag_24 (i := 1) rfl (E rfl rfl) rfl) ?_
     refine Y1 (Yv.assign rfl eV) ?_
     refine Y1 (Yv.assign rfl eV) ?_
     refine nl ?_
     refine AW.drop (List.take_sublist 1 _) ?_
     refine AW.ret (retI (.tmp rfl (.tmp rfl .nil)) ?_)
     rw [if_pos hval]
     refine enc_end ?_
     rw [enc2 (by rw [h33t]; rfl)]
     skip
     try simp only [List.append_assoc]
     rfl
    ·
     refine AWL.buildSlice1 rfl rfl (B rfl) rfl el_43 rfl (evsC (E rfl rfl) evs0) (Nat.le_of_ble_eq_true rfl) rfl rfl ?_
     refine tb 2 rfl ?_
     refine AWH.one (i := 3) (by kernel_rfl) rfl ?_
     refine C1 rfl ce_27 (E rfl rfl) (evsC (E rfl rfl) (evsC (E rfl rfl) (evsC (E rfl rfl) (evsC (E rfl rfl) evs0)))) (S1 := CB _ _ _ _) (S2 := [_]) rfl (rex34 _ _ _ _ _ _ _) ?_
     rintro t80 S80 ⟨rfl, A80, c80, rfl⟩
     refine tb 2 rfl ?_
     refine AWH.one (i := 6) (by kernel_rfl) rfl ?_
     refine C1 rfl ce_28 (E rfl rfl) (evsC (E rfl rfl) (evsC (E rfl rfl) evs0)) (S1 := CB _ _ _ _) (S2 := [_]) rfl (put35 _ _ _ _ [_]) ?_
     rintro t83 S83 ⟨rfl, A83, c83, rfl⟩
     refine tb 2 rfl ?_
     refine AWH.one (i := 10) (by kernel_rfl) rfl ?_
     refine C1 rfl ce_29 (E rfl rfl) (evsC (E rfl rfl) (evsC (E rfl rfl) (evsC (E rfl rfl) evs0))) (S1 := CB _ _ _ _) (S2 := [_]) rfl (two36 _ _ _ _ _ _) ?_
     rintro t87 S87 ⟨rfl, A87, c87, rfl⟩
     refine tb 2 rfl ?_
     refine AWH.done (by kernel_rfl) ?_
     refine AW.rseq ?_
     refine Y1 (Yv.move rfl eV) ?_
     refine Y1 (Yv.nilChk rfl eV) ?_
     refine Y1 (Yv.fieldBox rfl fo_49_0 eV) ?_
     refine Y1 (Yv.loadBox rfl ag_24 (i := 1) rfl (E rfl rfl) rfl) ?_
     refine Y1 (Yv.assign rfl eV) ?_
     refine Y1 (Yv.assign rfl eV) ?_
     refine nl ?_
     refine AW.drop (List.take_sublist 1 _) ?_
     refine AW.ret (retI (.tmp rfl (.tmp rfl .nil)) ?_)
     rw [if_pos hval]
     refine enc_end ?_
     rw [enc2 (by rw [h33t]; rfl)]
     skip
     try simp only [List.append_assoc]
     rfl
   · exfalso; replace h34f := of_decide_eq_false h34f; omega
  try replace h33f := of_decide_eq_false h33f
  refine AW.rseq ?_
  refine Y1 (Yv.eql rfl eV eV) ?_
  refine Y1 (Yv.assign rfl eV) ?_
  refine nl ?_
  refine AW.cond rfl (fun h35t => ?_) (fun h35f => ?_)
  ·
   try replace h35t := of_decide_eq_true h35t
   refine AW.skip ?_
   refine AW.cond rfl (fun h36t => ?_) (fun h36f => ?_)
   ·
    try replace h36t := of_decide_eq_true h36t
    refine AW.regionH (HeldBox b1 (insVals i)) rfl (tells_box (k := 2) rfl) ?_
    refine AWH.tk (i := 0) rfl rfl rfl (B rfl) (heldAll (freeMove rfl (E rfl rfl))) ?_
    refine AWH.tk (i := 1) rfl rfl rfl (B rfl) (heldAll (freeField rfl fo_23_1 (E rfl rfl))) ?_
    refine AWH.tk (i := 2) rfl rfl rfl (B rfl) (heldLoad rfl ag_3 (E rfl rfl) rfl) ?_
    refine AWH.tk (i := 4) rfl rfl rfl (B rfl) (heldAll (freeMove rfl (E rfl rfl))) ?_
    refine AWH.tk (i := 7) rfl rfl rfl (B rfl) (heldAll (freeMove rfl (E rfl rfl))) ?_
    refine AWH.tk (i := 8) rfl rfl rfl (B rfl) (heldAll (freeField rfl fo_23_1 (E rfl rfl))) ?_
    refine AWH.tk (i := 9) rfl rfl rfl (B rfl) (heldLoad rfl ag_3 (E rfl rfl) rfl) ?_
    refine AWH.two (i := 3) (j := 5) (by kernel_rfl) rfl rfl ?_ ?_
    ·
     refine C1 rfl ce_27 (E rfl rfl) (evsC (E rfl rfl) (evsC (E rfl rfl) (evsC (E rfl rfl) (evsC (E rfl rfl) evs0)))) (S1 := CB _ _ _ _) (S2 := [_]) rfl (rex34 _ _ _ _ _ _ _) ?_
     rintro t80 S80 ⟨rfl, A80, c80, rfl⟩
     refine tb 2 rfl ?_
     refine AWH.one (i := 5) (by kernel_rfl) rfl ?_
     refine AWL.buildSlice1 rfl rfl (B rfl) rfl el_43 rfl (evsC (E rfl rfl) evs0) (Nat.le_of_ble_eq_true rfl) rfl rfl ?_
     refine tb 2 rfl ?_
     refine AWH.one (i := 6) (by kernel_rfl) rfl ?_
     refine C1 rfl ce_28 (E rfl rfl) (evsC (E rfl rfl) (evsC (E rfl rfl) evs0)) (S1 := CB _ _ _ _) (S2 := [_]) rfl (put35 _ _ _ _ [_]) ?_
     rintro t83 S83 ⟨rfl, A83, c83, rfl⟩
     refine tb 2 rfl ?_
     refine AWH.one (i := 10) (by kernel_rfl) rfl ?_
     refine C1 rfl ce_29 (E rfl rfl) (evsC (E rfl rfl) (evsC (E rfl rfl) (evsC (E rfl rfl) evs0))) (S1 := CB _ _ _ _) (S2 := [_]) rfl (two36 _ _ _ _ _ _) ?_
     rintro t87 S87 ⟨rfl, A87, c87, rfl⟩
     refine tb 2 rfl ?_
     refine AWH.done (by kernel_rfl) ?_
     refine AW.rseq ?_
     refine Y1 (Yv.move rfl eV) ?_
     refine Y1 (Yv.nilChk rfl eV) ?_
     refine Y1 (Yv.fieldBox rfl fo_49_0 eV) ?_
     refine Y1 (Yv.loadBox rfl ag_24 (i := 1) rfl (E rfl rfl) rfl) ?_
     refine Y1 (Yv.assign rfl eV) ?_
     refine Y1 (Yv.assign rfl eV) ?_
     refine nl ?_
     refine AW.drop (List.take_sublist 1 _) ?_
     refine AW.ret (retI (.tmp rfl (.tmp rfl .nil)) ?_)
     rw [if_pos hval]
     refine enc_end ?_
     rw [enc2 (by rw [h35t]; rfl)]
     skip
     try simp only [List.append_assoc]
     rfl
    ·
     refine AWL.buildSlice1 rfl rfl (B rfl) rfl el_43 rfl (evsC (E rfl rfl) evs0) (Nat.le_of_ble_eq_true rfl) rfl rfl ?_
     refine tb 2 rfl ?_
     refine AWH.one (i := 3) (by kernel_rfl) rfl ?_
     refine C1 rfl ce_27 (E rfl rfl) (evsC (E rfl rfl) (evsC (E rfl rfl) (evsC (E rfl rfl) (evsC (E rfl rfl) evs0)))) (S1 := CB _ _ _ _) (S2 := [_]) rfl (rex34 _ _ _ _ _ _ _) ?_
     rintro t80 S80 ⟨rfl, A80, c80, rfl⟩
     refine tb 2 rfl ?_
     refine AWH.one (i := 6) (by kernel_rfl) rfl ?_
     refine C1 rfl ce_28 (E rfl rfl) (evsC (E rfl rfl) (evsC (E rfl rfl) evs0)) (S1 := CB _ _ _ _) (S2 := [_]) rfl (put35 _ _ _ _ [_]) ?_
     rintro t83 S83 ⟨rfl, A83, c83, rfl⟩
     refine tb 2 rfl ?_
     refine AWH.one (i := 10) (by kernel_rfl) rfl ?_
     refine C1 rfl ce_29 (E rfl rfl) (evsC (E rfl rfl) (evsC (E rfl rfl) (evsC (E rfl rfl) evs0))) (S1 := CB _ _ _ _) (S2 := [_]) rfl (two36 _ _ _ _ _ _) ?_
     rintro t87 S87 ⟨rfl, A87, c87, rfl⟩
     refine tb 2 rfl ?_
     refine AWH.done (by kernel_rfl) ?_
     refine AW.rseq ?_
     refine Y1 (Yv.move rfl eV) ?_
     refine Y1 (Yv.nilChk rfl eV) ?_
     refine Y1 (Yv.fieldBox rfl fo_49_0 eV) ?_
     refine Y1 (Yv.loadBox rfl ag_24 (i := 1) rfl (E rfl rfl) rfl) ?_
     refine Y1 (Yv.assign rfl eV) ?_
     refine Y1 (Yv.assign rfl eV) ?_
     refine nl ?_
     refine AW.drop (List.take_sublist 1 _) ?_
     refine AW.ret (retI (.tmp rfl (.tmp rfl .nil)) ?_)
     rw [if_pos hval]
     refine enc_end ?_
     rw [enc2 (by rw [h35t]; rfl)]
     skip
     try simp only [List.append_assoc]
     rfl
   · exfalso; replace h36f := of_decide_eq_false h36f; omega
  try replace h35f := of_decide_eq_false h35f
  refine AW.rseq ?_
  refine Y1 (Yv.eql rfl eV eV) ?_
  refine Y1 (Yv.assign rfl eV) ?_
  refine nl ?_
  refine AW.cond rfl (fun h37t => ?_) (fun h37f => ?_)
  ·
   try replace h37t := of_decide_eq_true h37t
   refine AW.skip ?_
   refine AW.cond rfl (fun h38t => ?_) (fun h38f => ?_)
   ·
    try replace h38t := of_decide_eq_true h38t
    refine AW.regionH (HeldBox b1 (insVals i)) rfl (tells_box (k := 2) rfl) ?_
    refine AWH.tk (i := 0) rfl rfl rfl (B rfl) (heldAll (freeMove rfl (E rfl rfl))) ?_
    refine AWH.tk (i := 1) rfl rfl rfl (B rfl) (heldAll (freeField rfl fo_23_1 (E rfl rfl))) ?_
    refine AWH.tk (i := 2) rfl rfl rfl (B rfl) (heldLoad rfl ag_3 (E rfl rfl) rfl) ?_
    refine AWH.tk (i := 4) rfl rfl rfl (B rfl) (heldAll (freeMove rfl (E rfl rfl))) ?_
    refine AWH.tk (i := 7) rfl rfl rfl (B rfl) (heldAll (freeMove rfl (E rfl rfl))) ?_
    refine AWH.tk (i := 8) rfl rfl rfl (B rfl) (heldAll (freeField rfl fo_23_1 (E rfl rfl))) ?_
    refine AWH.tk (i := 9) rfl rfl rfl (B rfl) (heldLoad rfl ag_3 (E rfl rfl) rfl) ?_
    refine AWH.two (i := 3) (j := 5) (by kernel_rfl) rfl rfl ?_ ?_
    ·
     refine C1 rfl ce_27 (E rfl rfl) (evsC (E rfl rfl) (evsC (E rfl rfl) (evsC (E rfl rfl) (evsC (E rfl rfl) evs0)))) (S1 := CB _ _ _ _) (S2 := [_]) rfl (rex34 _ _ _ _ _ _ _) ?_
     rintro t80 S80 ⟨rfl, A80, c80, rfl⟩
     refine tb 2 rfl ?_
     refine AWH.one (i := 5) (by kernel_rfl) rfl ?_
     refine AWL.buildSlice1 rfl rfl (B rfl) rfl el_43 rfl (evsC (E rfl rfl) evs0) (Nat.le_of_ble_eq_true rfl) rfl rfl ?_
     refine tb 2 rfl ?_
     refine AWH.one (i := 6) (by kernel_rfl) rfl ?_
     refine C1 rfl ce_28 (E rfl rfl) (evsC (E rfl rfl) (evsC (E rfl rfl) evs0)) (S1 := CB _ _ _ _) (S2 := [_]) rfl (put35 _ _ _ _ [_]) ?_
     rintro t83 S83 ⟨rfl, A83, c83, rfl⟩
     refine tb 2 rfl ?_
     refine AWH.one (i := 10) (by kernel_rfl) rfl ?_
     refine C1 rfl ce_29 (E rfl rfl) (evsC (E rfl rfl) (evsC (E rfl rfl) (evsC (E rfl rfl) evs0))) (S1 := CB _ _ _ _) (S2 := [_]) rfl (two36 _ _ _ _ _ _) ?_
     rintro t87 S87 ⟨rfl, A87, c87, rfl⟩
     refine tb 2 rfl ?_
     refine AWH.done (by kernel_rfl) ?_
     refine AW.rseq ?_
     refine Y1 (Yv.move rfl eV) ?_
     refine Y1 (Yv.nilChk rfl eV) ?_
     refine Y1 (Yv.fieldBox rfl fo_49_0 eV) ?_
     refine Y1 (Yv.loadBox rfl ag_24 (i := 1) rfl (E rfl rfl) rfl) ?_
     refine Y1 (Yv.assign rfl eV) ?_
     refine Y1 (Yv.assign rfl eV) ?_
     refine nl ?_
     refine AW.drop (List.take_sublist 1 _) ?_
     refine AW.ret (retI (.tmp rfl (.tmp rfl .nil)) ?_)
     rw [if_pos hval]
     refine enc_end ?_
     rw [enc2 (by rw [h37t]; rfl)]
     skip
     try simp only [List.append_assoc]
     rfl
    ·
     refine AWL.buildSlice1 rfl rfl (B rfl) rfl el_43 rfl (evsC (E rfl rfl) evs0) (Nat.le_of_ble_eq_true rfl) rfl rfl ?_
     refine tb 2 rfl ?_
     refine AWH.one (i := 3) (by kernel_rfl) rfl ?_
     refine C1 rfl ce_27 (E rfl rfl) (evsC (E rfl rfl) (evsC (E rfl rfl) (evsC (E rfl rfl) (evsC (E rfl rfl) evs0)))) (S1 := CB _ _ _ _) (S2 := [_]) rfl (rex34 _ _ _ _ _ _ _) ?_
     rintro t80 S80 ⟨rfl, A80, c80, rfl⟩
     refine tb 2 rfl ?_
     refine AWH.one (i := 6) (by kernel_rfl) rfl ?_
     refine C1 rfl ce_28 (E rfl rfl) (evsC (E rfl rfl) (evsC (E rfl rfl) evs0)) (S1 := CB _ _ _ _) (S2 := [_]) rfl (put35 _ _ _ _ [_]) ?_
     rintro t83 S83 ⟨rfl, A83, c83, rfl⟩
     refine tb 2 rfl ?_
     refine AWH.one (i := 10) (by kernel_rfl) rfl ?_
     refine C1 rfl ce_29 (E rfl rfl) (evsC (E rfl rfl) (evsC (E rfl rfl) (evsC (E rfl rfl) evs0))) (S1 := CB _ _ _ _) (S2 := [_]) rfl (two36 _ _ _ _ _ _) ?_
     rintro t87 S87 ⟨rfl, A87, c87, rfl⟩
     refine tb 2 rfl ?_
     refine AWH.done (by kernel_rfl) ?_
     refine AW.rseq ?_
     refine Y1 (Yv.move rfl eV) ?_
     refine Y1 (Yv.nilChk rfl eV) ?_
     refine Y1 (Yv.fieldBox rfl fo_49_0 eV) ?_
     refine Y1 (Yv.loadBox rfl ag_24 (i := 1) rfl (E rfl rfl) rfl) ?_
     refine Y1 (Yv.assign rfl eV) ?_
     refine Y1 (Yv.assign rfl eV) ?_
     refine nl ?_
     refine AW.drop (List.take_sublist 1 _) ?_
     refine AW.ret (retI (.tmp rfl (.tmp rfl .nil)) ?_)
     rw [if_pos hval]
     refine enc_end ?_
     rw [enc2 (by rw [h37t]; rfl)]
     skip
     try simp only [List.append_assoc]
     rfl
   · exfalso; replace h38f := of_decide_eq_false h38f; omega
  try replace h37f := of_decide_eq_false h37f
  refine AW.rseq ?_
  refine Y1 (Yv.eql rfl eV eV) ?_
  refine Y1 (Yv.assign rfl eV) ?_
  refine nl ?_
  refine AW.cond rfl (fun h39t => ?_) (fun h39f => ?_)
  ·
   try replace h39t := of_decide_eq_true h39t
   refine AW.skip ?_
   refine AW.cond rfl (fun h40t => ?_) (fun h40f => ?_)
   ·
    try replace h40t := of_decide_eq_true h40t
    refine AW.regionH (HeldBox b1 (insVals i)) rfl (tells_box (k := 2) rfl) ?_
    refine AWH.tk (i := 0) rfl rfl rfl (B rfl) (heldAll (freeMove rfl (E rfl rfl))) ?_
    refine AWH.tk (i := 1) rfl rfl rfl (B rfl) (heldAll (freeField rfl fo_23_1 (E rfl rfl))) ?_
    refine AWH.tk (i := 2) rfl rfl rfl (B rfl) (heldLoad rfl ag_3 (E rfl rfl) rfl) ?_
    refine AWH.tk (i := 4) rfl rfl rfl (B rfl) (heldAll (freeMove rfl (E rfl rfl))) ?_
    refine AWH.tk (i := 7) rfl rfl rfl (B rfl) (heldAll (freeMove rfl (E rfl rfl))) ?_
    refine AWH.tk (i := 8) rfl rfl rfl (B rfl) (heldAll (freeField rfl fo_23_1 (E rfl rfl))) ?_
    refine AWH.tk (i := 9) rfl rfl rfl (B rfl) (heldLoad rfl ag_3 (E rfl rfl) rfl) ?_
    refine AWH.two (i := 3) (j := 5) (by kernel_rfl) rfl rfl ?_ ?_
    ·
     refine C1 rfl ce_27 (E rfl rfl) (evsC (E rfl rfl) (evsC (E rfl rfl) (evsC (E rfl rfl) (evsC (E rfl rfl) evs0)))) (S1 := CB _ _ _ _) (S2 := [_]) rfl (rex34 _ _ _ _ _ _ _) ?_
     rintro t80 S80 ⟨rfl, A80, c80, rfl⟩
     refine tb 2 rfl ?_
     refine AWH.one (i := 5) (by kernel_rfl) rfl ?_
     refine AWL.buildSlice1 rfl rfl (B rfl) rfl el_43 rfl (evsC (E rfl rfl) evs0) (Nat.le_of_ble_eq_true rfl) rfl rfl ?_
     refine tb 2 rfl ?_
     refine AWH.one (i := 6) (by kernel_rfl) rfl ?_
     refine C1 rfl ce_28 (E rfl rfl) (evsC (E rfl rfl) (evsC (E rfl rfl) evs0)) (S1 := CB _ _ _ _) (S2 := [_]) rfl (put35 _ _ _ _ [_]) ?_
     rintro t83 S83 ⟨rfl, A83, c83, rfl⟩
     refine tb 2 rfl ?_
     refine AWH.one (i := 10) (by kernel_rfl) rfl ?_
     refine C1 rfl ce_29 (E rfl rfl) (evsC (E rfl rfl) (evsC (E rfl rfl) (evsC (E rfl rfl) evs0))) (S1 := CB _ _ _ _) (S2 := [_]) rfl (two36 _ _ _ _ _ _) ?_
     rintro t87 S87 ⟨rfl, A87, c87, rfl⟩
     refine tb 2 rfl ?_
     refine AWH.done (by kernel_rfl) ?_
     refine AW.rseq ?_
     refine Y1 (Yv.move rfl eV) ?_
     refine Y1 (Yv.nilChk rfl eV) ?_
     refine Y1 (Yv.fieldBox rfl fo_49_0 eV) ?_
     refine Y1 (Yv.loadBox rfl ag_24 (i := 1) rfl (E rfl rfl) rfl) ?_
     refine Y1 (Yv.assign rfl eV) ?_
     refine Y1 (Yv.assign rfl eV) ?_
     refine nl ?_
     refine AW.drop (List.take_sublist 1 _) ?_
     refine AW.ret (retI (.tmp rfl (.tmp rfl .nil)) ?_)
     rw [if_pos hval]
     refine enc_end ?_
     rw [enc2 (by rw [h39t]; rfl)]
     skip
     try simp only [List.append_assoc]
     rfl
    ·
     refine AWL.buildSlice1 rfl rfl (B rfl) rfl el_43 rfl (evsC (E rfl rfl) evs0) (Nat.le_of_ble_eq_true rfl) rfl rfl ?_
     refine tb 2 rfl ?_
     refine AWH.one (i := 3) (by kernel_rfl) rfl ?_
     refine C1 rfl ce_27 (E rfl rfl) (evsC (E rfl rfl) (evsC (E rfl rfl) (evsC (E rfl rfl) (evsC (E rfl rfl) evs0)))) (S1 := CB _ _ _ _) (S2 := [_]) rfl (rex34 _ _ _ _ _ _ _) ?_
     rintro t80 S80 ⟨rfl, A80, c80, rfl⟩
     refine tb 2 rfl ?_
     refine AWH.one (i := 6) (by kernel_rfl) rfl ?_
     refine C1 rfl ce_28 (E rfl rfl) (evsC (E rfl rfl) (evsC (E rfl rfl) evs0)) (S1 := CB _ _ _ _) (S2 := [_]) rfl (put35 _ _ _ _ [_]) ?_
     rintro t83 S83 ⟨rfl, A83, c83, rfl⟩
     refine tb 2 rfl ?_
     refine AWH.one (i := 10) (by kernel_rfl) rfl ?_
     refine C1 rfl ce_29 (E rfl rfl) (evsC (E rfl rfl) (evsC (E rfl rfl) (evsC (E rfl rfl) evs0))) (S1 := CB _ _ _ _) (S2 := [_]) rfl (two36 _ _ _ _ _ _) ?_
     rintro t87 S87 ⟨rfl, A87, c87, rfl⟩
     refine tb 2 rfl ?_
     refine AWH.done (by kernel_rfl) ?_
     refine AW.rseq ?_
     refine Y1 (Yv.move rfl eV) ?_
     refine Y1 (Yv.nilChk rfl eV) ?_
     refine Y1 (Yv.fieldBox rfl fo_49_0 eV) ?_
     refine Y1 (Yv.loadBox rfl ag_24 (i := 1) rfl (E rfl rfl) rfl) ?_
     refine Y1 (Yv.assign rfl eV) ?_
     refine Y1 (Yv.assign rfl eV) ?_
     refine nl ?_
     refine AW.drop (List.take_sublist 1 _) ?_
     refine AW.ret (retI (.tmp rfl (.tmp rfl .nil)) ?_)
     rw [if_pos hval]
     refine enc_end ?_
     rw [enc2 (by rw [h39t]; rfl)]
     skip
     try simp only [List.append_assoc]
     rfl
   · exfalso; replace h40f := of_decide_eq_false h40f; omega
  try replace h39f := of_decide_eq_false h39f
  refine AW.rseq ?_
  refine Y1 (Yv.eql rfl eV eV) ?_
  refine Y1 (Yv.assign rfl eV) ?_
  refine nl ?_
  refine AW.cond rfl (fun h41t => ?_) (fun h41f => ?_)
  ·
   try replace h41t := of_decide_eq_true h41t
   refine AW.skip ?_
   refine AW.cond rfl (fun h42t => ?_) (fun h42f => ?_)
   ·
    try replace h42t := of_decide_eq_true h42t
    refine AW.regionH (HeldBox b1 (insVals i)) rfl (tells_box (k := 2) rfl) ?_
    refine AWH.tk (i := 0) rfl rfl rfl (B rfl) (heldAll (freeMove rfl (E rfl rfl))) ?_
    refine AWH.tk (i := 1) rfl rfl rfl (B rfl) (heldAll (freeField rfl fo_23_1 (E rfl rfl))) ?_
    refine AWH.tk (i := 2) rfl rfl rfl (B rfl) (heldLoad rfl ag_3 (E rfl rfl) rfl) ?_
    refine AWH.tk (i := 4) rfl rfl rfl (B rfl) (heldAll (freeMove rfl (E rfl rfl))) ?_
    refine AWH.tk (i := 7) rfl rfl rfl (B rfl) (heldAll (freeMove rfl (E rfl rfl))) ?_
    refine AWH.tk (i := 8) rfl rfl rfl (B rfl) (heldAll (freeField rfl fo_23_1 (E rfl rfl))) ?_
    refine AWH.tk (i := 9) rfl rfl rfl (B rfl) (heldLoad rfl ag_3 (E rfl rfl) rfl) ?_
    refine AWH.two (i := 3) (j := 5) (by kernel_rfl) rfl rfl ?_ ?_
    ·
     refine C1 rfl ce_27 (E rfl rfl) (evsC (E rfl rfl) (evsC (E rfl rfl) (evsC (E rfl rfl) (evsC (E rfl rfl) evs0)))) (S1 := CB _ _ _ _) (S2 := [_]) rfl (rex34 _ _ _ _ _ _ _) ?_
     rintro t80 S80 ⟨rfl, A80, c80, rfl⟩
     refine tb 2 rfl ?_
     refine AWH.one (i := 5) (by kernel_rfl) rfl ?_
     refine AWL.buildSlice1 rfl rfl (B rfl) rfl el_43 rfl (evsC (E rfl rfl) evs0) (Nat.le_of_ble_eq_true rfl) rfl rfl ?_
     refine tb 2 rfl ?_
     refine AWH.one (i := 6) (by kernel_rfl) rfl ?_
     refine C1 rfl ce_28 (E rfl rfl) (evsC (E rfl rfl) (evsC (E rfl rfl) evs0)) (S1 := CB _ _ _ _) (S2 := [_]) rfl (put35 _ _ _ _ [_]) ?_
     rintro t83 S83 ⟨rfl, A83, c83, rfl⟩
     refine tb 2 rfl ?_
     refine AWH.one (i := 10) (by kernel_rfl) rfl ?_
     refine C1 rfl ce_29 (E rfl rfl) (evsC (E rfl rfl) (evsC (E rfl rfl) (evsC (E rfl rfl) evs0))) (S1 := CB _ _ _ _) (S2 := [_]) rfl (two36 _ _ _ _ _ _) ?_
     rintro t87 S87 ⟨rfl, A87, c87, rfl⟩
     refine tb 2 rfl ?_
     refine AWH.done (by kernel_rfl) ?_
     refine AW.rseq ?_
     refine Y1 (Yv.move rfl eV) ?_
     refine Y1 (Yv.nilChk rfl eV) ?_
     refine Y1 (Yv.fieldBox rfl fo_49_0 eV) ?_
     refine Y1 (Yv.loadBox rfl ag_24 (i := 1) rfl (E rfl rfl) rfl) ?_
     refine Y1 (Yv.assign rfl eV) ?_
     refine Y1 (Yv.assign rfl eV) ?_
     refine nl ?_
     refine AW.drop (List.take_sublist 1 _) ?_
     refine AW.ret (retI (.tmp rfl (.tmp rfl .nil)) ?_)
     rw [if_pos hval]
     refine enc_end ?_
     rw [enc2 (by rw [h41t]; rfl)]
     skip
     try simp only [List.append_assoc]
     rfl
    ·
     refine AWL.buildSlice1 rfl rfl (B rfl) rfl el_43 rfl (evsC (E rfl rfl) evs0) (Nat.le_of_ble_eq_true rfl) rfl rfl ?_
     refine tb 2 rfl ?_
     refine AWH.one (i := 3) (by kernel_rfl) rfl ?_
     refine C1 rfl ce_27 (E rfl rfl) (evsC (E rfl rfl) (evsC (E rfl rfl) (evsC (E rfl rfl) (evsC (E rfl rfl) evs0)))) (S1 := CB _ _ _ _) (S2 := [_]) rfl (rex34 _ _ _ _ _ _ _) ?_
     rintro t80 S80 ⟨rfl, A80, c80, rfl⟩
     refine tb 2 rfl ?_
     refine AWH.one (i := 6) (by kernel_rfl) rfl ?_
     refine C1 rfl ce_28 (E rfl rfl) (evsC (E rfl rfl) (evsC (E rfl rfl) evs0)) (S1 := CB _ _ _ _) (S2 := [_]) rfl (put35 _ _ _ _ [_]) ?_
     rintro t83 S83 ⟨rfl, A83, c83, rfl⟩
     refine tb 2 rfl ?_
     refine AWH.one (i := 10) (by kernel_rfl) rfl ?_
     refine C1 rfl ce_29 (E rfl rfl) (evsC (E rfl rfl) (evsC (E rfl rfl) (evsC (E rfl rfl) evs0))) (S1 := CB _ _ _ _) (S2 := [_]) rfl (two36 _ _ _ _ _ _) ?_
     rintro t87 S87 ⟨rfl, A87, c87, rfl⟩
     refine tb 2 rfl ?_
     refine AWH.done (by kernel_rfl) ?_
     refine AW.rseq ?_
     refine Y1 (Yv.move rfl eV) ?_
     refine Y1 (Yv.nilChk rfl eV) ?_
     refine Y1 (Yv.fieldBox rfl fo_49_0 eV) ?_
     refine Y1 (Yv.loadBox rfl ag_24 (i := 1) rfl (E rfl rfl) rfl) ?_
     refine Y1 (Yv.assign rfl eV) ?_
     refine Y1 (Yv.assign rfl eV) ?_
     refine nl ?_
     refine AW.drop (List.take_sublist 1 _) ?_
     refine AW.ret (retI (.tmp rfl (.tmp rfl .nil)) ?_)
     rw [if_pos hval]
     refine enc_end ?_
     rw [enc2 (by rw [h41t]; rfl)]
     skip
     try simp only [List.append_assoc]
     rfl
   · exfalso; replace h42f := of_decide_eq_false h42f; omega
  try replace h41f := of_decide_eq_false h41f
  refine AW.region ?_
  refine Y1 (Yv.eql rfl eV eV) ?_
  refine Y1 (Yv.assign rfl eV) ?_
  refine nl ?_
  refine AW.cond rfl (fun h43t => ?_) (fun h43f => ?_)
  ·
   try replace h43t := of_decide_eq_true h43t
   refine AW.regionH (HeldBox b1 (insVals i)) rfl (tells_box (k := 2) rfl) ?_
   refine AWH.tk (i := 0) rfl rfl rfl (B rfl) (heldAll (freeMove rfl (E rfl rfl))) ?_
   refine AWH.tk (i := 1) rfl rfl rfl (B rfl) (heldAll (freeField rfl fo_23_1 (E rfl rfl))) ?_
   refine AWH.tk (i := 2) rfl rfl rfl (B rfl) (heldLoad rfl ag_3 (E rfl rfl) rfl) ?_
   refine AWH.tk (i := 4) rfl rfl rfl (B rfl) (heldAll (freeMove rfl (E rfl rfl))) ?_
   refine AWH.tk (i := 7) rfl rfl rfl (B rfl) (heldAll (freeMove rfl (E rfl rfl))) ?_
   refine AWH.tk (i := 8) rfl rfl rfl (B rfl) (heldAll (freeField rfl fo_23_1 (E rfl rfl))) ?_
   refine AWH.tk (i := 9) rfl rfl rfl (B rfl) (heldLoad rfl ag_3 (E rfl rfl) rfl) ?_
   refine AWH.two (i := 3) (j := 5) (by kernel_rfl) rfl rfl ?_ ?_
   ·
    refine C1 rfl ce_27 (E rfl rfl) (evsC (E rfl rfl) (evsC (E rfl rfl) (evsC (E rfl rfl) (evsC (E rfl rfl) evs0)))) (S1 := CB _ _ _ _) (S2 := [_]) rfl (rex34 _ _ _ _ _ _ _) ?_
    rintro t80 S80 ⟨rfl, A80, c80, rfl⟩
    refine tb 2 rfl ?_
    refine AWH.one (i := 5) (by kernel_rfl) rfl ?_
    refine AWL.buildSlice1 rfl rfl (B rfl) rfl el_43 rfl (evsC (E rfl rfl) evs0) (Nat.le_of_ble_eq_true rfl) rfl rfl ?_
    refine tb 2 rfl ?_
    refine AWH.one (i := 6) (by kernel_rfl) rfl ?_
    refine C1 rfl ce_28 (E rfl rfl) (evsC (E rfl rfl) (evsC (E rfl rfl) evs0)) (S1 := CB _ _ _ _) (S2 := [_]) rfl (put35 _ _ _ _ [_]) ?_
    rintro t83 S83 ⟨rfl, A83, c83, rfl⟩
    refine tb 2 rfl ?_
    refine AWH.one (i := 10) (by kernel_rfl) rfl ?_
    refine C1 rfl ce_29 (E rfl rfl) (evsC (E rfl rfl) (evsC (E rfl rfl) (evsC (E rfl rfl) evs0))) (S1 := CB _ _ _ _) (S2 := [_]) rfl (two36 _ _ _ _ _ _) ?_
    rintro t87 S87 ⟨rfl, A87, c87, rfl⟩
    refine tb 2 rfl ?_
    refine AWH.done (by kernel_rfl) ?_
    refine AW.rseq ?_
    refine Y1 (Yv.move rfl eV) ?_
    refine Y1 (Yv.nilChk rfl eV) ?_
    refine Y1 (Yv.fieldBox rfl fo_49_0 eV) ?_
    refine Y1 (Yv.loadBox rfl ag_24 (i := 1) rfl (E rfl rfl) rfl) ?_
    refine Y1 (Yv.assign rfl eV) ?_
    refine Y1 (Yv.assign rfl eV) ?_
    refine nl ?_
    refine AW.drop (List.take_sublist 1 _) ?_
    refine AW.ret (retI (.tmp rfl (.tmp rfl .nil)) ?_)
    rw [if_pos hval]
    refine enc_end ?_
    rw [enc2 (by rw [h43t]; rfl)]
    skip
    try simp only [List.append_assoc]
    rfl
   ·
    refine AWL.buildSlice1 rfl rfl (B rfl) rfl el_43 rfl (evsC (E rfl rfl) evs0) (Nat.le_of_ble_eq_true rfl) rfl rfl ?_
    refine tb 2 rfl ?_
    refine AWH.one (i := 3) (by kernel_rfl) rfl ?_
    refine C1 rfl ce_27 (E rfl rfl) (evsC (E rfl rfl) (evsC (E rfl rfl) (evsC (E rfl rfl) (evsC (E rfl rfl) evs0)))) (S1 := CB _ _ _ _) (S2 := [_]) rfl (rex34 _ _ _ _ _ _ _) ?_
    rintro t80 S80 ⟨rfl, A80, c80, rfl⟩
    refine tb 2 rfl ?_
    refine AWH.one (i := 6) (by kernel_rfl) rfl ?_
    refine C1 rfl ce_28 (E rfl rfl) (evsC (E rfl rfl) (evsC (E rfl rfl) evs0)) (S1 := CB _ _ _ _) (S2 := [_]) rfl (put35 _ _ _ _ [_]) ?_
    rintro t83 S83 ⟨rfl, A83, c83, rfl⟩
    refine tb 2 rfl ?_
    refine AWH.one (i := 10) (by kernel_rfl) rfl ?_
    refine C1 rfl ce_29 (E rfl rfl) (evsC (E rfl rfl) (evsC (E rfl rfl) (evsC (E rfl rfl) evs0))) (S1 := CB _ _ _ _) (S2 := [_]) rfl (two36 _ _ _ _ _ _) ?_
    rintro t87 S87 ⟨rfl, A87, c87, rfl⟩
    refine tb 2 rfl ?_
    refine AWH.done (by kernel_rfl) ?_
    refine AW.rseq ?_
    refine Y1 (Yv.move rfl eV) ?_
    refine Y1 (Yv.nilChk rfl eV) ?_
    refine Y1 (Yv.fieldBox rfl fo_49_0 eV) ?_
    refine Y1 (Yv.loadBox rfl ag_24 (i := 1) rfl (E rfl rfl) rfl) ?_
    refine Y1 (Yv.assign rfl eV) ?_
    refine Y1 (Yv.assign rfl eV) ?_
    refine nl ?_
    refine AW.drop (List.take_sublist 1 _) ?_
    refine AW.ret (retI (.tmp rfl (.tmp rfl .nil)) ?_)
    rw [if_pos hval]
    refine enc_end ?_
    rw [enc2 (by rw [h43t]; rfl)]
    skip
    try simp only [List.append_assoc]
    rfl
  try replace h43f := of_decide_eq_false h43f
  refine AW.seq ?_
  refine AW.rseq ?_
  refine Y1 (Yv.eql rfl eV eV) ?_
  refine Y1 (Yv.assign rfl eV) ?_
  refine nl ?_
  refine AW.cond rfl (fun h44t => ?_) (fun h44f => ?_)
  ·
   try replace h44t := of_decide_eq_true h44t
   refine AW.skip ?_
   refine AW.cond rfl (fun h45t => ?_) (fun h45f => ?_)
   ·
    try replace h45t := of_decide_eq_true h45t
    refine AW.regionH (HeldBox b1 (insVals i)) rfl (tells_box (k := 2) rfl) ?_
    refine AWH.tk (i := 0) rfl rfl rfl (B rfl) (heldAll (freeMove rfl (E rfl rfl))) ?_
    refine AWH.tk (i := 1) rfl rfl rfl (B rfl) (heldAll (freeField rfl fo_23_1 (E rfl rfl))) ?_
    refine AWH.tk (i := 2) rfl rfl rfl (B rfl) (heldLoad rfl ag_3 (E rfl rfl) rfl) ?_
    refine AWH.tk (i := 4) rfl rfl rfl (B rfl) (heldAll (freeMove rfl (E rfl rfl))) ?_
    refine AWH.tk (i := 7) rfl rfl rfl (B rfl) (heldAll (freeMove rfl (E rfl rfl))) ?_
    refine AWH.tk (i := 8) rfl rfl rfl (B rfl) (heldAll (freeField rfl fo_23_1 (E rfl rfl))) ?_
    refine AWH.tk (i := 9) rfl rfl rfl (B rfl) (heldLoad rfl ag_3 (E rfl rfl) rfl) ?_
    refine AWH.tk (i := 11) rfl rfl rfl (B rfl) (heldAll (freeField rfl fo_23_5 (E rfl rfl))) ?_
    refine AWH.tk (i := 12) rfl rfl rfl (B rfl) (heldLoad rfl ag_2 (E rfl rfl) rfl) ?_
    refine AWH.two (i := 3) (j := 5) (by kernel_rfl) rfl rfl ?_ ?_
    ·
     refine C1 rfl ce_27 (E rfl rfl) (evsC (E rfl rfl) (evsC (E rfl rfl) (evsC (E rfl rfl) (evsC (E rfl rfl) evs0)))) (S1 := CB _ _ _ _) (S2 := [_]) rfl (rex34 _ _ _ _ _ _ _) ?_
     rintro t95 S95 ⟨rfl, A95, c95, rfl⟩
     refine tb 2 rfl ?_
     refine AWH.one (i := 5) (by kernel_rfl) rfl ?_
     refine AWL.buildSlice1 rfl rfl (B rfl) rfl el_43 rfl (evsC (E rfl rfl) evs0) (Nat.le_of_ble_eq_true rfl) rfl rfl ?_
     refine tb 2 rfl ?_
     refine AWH.one (i := 6) (by kernel_rfl) rfl ?_
     refine C1 rfl ce_28 (E rfl rfl) (evsC (E rfl rfl) (evsC (E rfl rfl) evs0)) (S1 := CB _ _ _ _) (S2 := [_]) rfl (put35 _ _ _ _ [_]) ?_
     rintro t98 S98 ⟨rfl, A98, c98, rfl⟩
     refine tb 2 rfl ?_
     refine AWH.one (i := 10) (by kernel_rfl) rfl ?_
     refine C1 rfl ce_29 (E rfl rfl) (evsC (E rfl rfl) (evsC (E rfl rfl) (evsC (E rfl rfl) evs0))) (S1 := CB _ _ _ _) (S2 := [_]) rfl (two36 _ _ _ _ _ _) ?_
     rintro t102 S102 ⟨rfl, A102, c102, rfl⟩
     refine tb 2 rfl ?_
     refine AWH.one (i := 13) (by kernel_rfl) rfl ?_
     refine C1 rfl ce_30 (E rfl rfl) (evsC (E rfl rfl) (evsC (E rfl rfl) (evsC (E rfl rfl) evs0))) (S1 := CB _ _ _ _) (S2 := [_]) rfl (imm37 _ _ _ _ _ 1) ?_
     rintro t105 S105 ⟨rfl, A105, c105, rfl⟩
     refine tb 2 rfl ?_
     refine AWH.done (by kernel_rfl) ?_
     refine AW.rseq ?_
     refine Y1 (Yv.move rfl eV) ?_
     refine Y1 (Yv.nilChk rfl eV) ?_
     refine Y1 (Yv.fieldBox rfl fo_49_0 eV) ?_
     refine Y1 (Yv.loadBox rfl ag_24 (i := 1) rfl (E rfl rfl) rfl) ?_
     refine Y1 (Yv.assign rfl eV) ?_
     refine Y1 (Yv.assign rfl eV) ?_
     refine nl ?_
     refine AW.drop (List.take_sublist 1 _) ?_
     refine AW.ret (retI (.tmp rfl (.tmp rfl .nil)) ?_)
     rw [if_pos hval]
     refine enc_end ?_
     rw [enc3 (by rw [h44t]; rfl)]
     skip
     try simp only [List.append_assoc]
     rfl
    ·
     refine AWL.buildSlice1 rfl rfl (B rfl) rfl el_43 rfl (evsC (E rfl rfl) evs0) (Nat.le_of_ble_eq_true rfl) rfl rfl ?_
     refine tb 2 rfl ?_
     refine AWH.one (i := 3) (by kernel_rfl) rfl ?_
     refine C1 rfl ce_27 (E rfl rfl) (evsC (E rfl rfl) (evsC (E rfl rfl) (evsC (E rfl rfl) (evsC (E rfl rfl) evs0)))) (S1 := CB _ _ _ _) (S2 := [_]) rfl (rex34 _ _ _ _ _ _ _) ?_
     rintro t95 S95 ⟨rfl, A95, c95, rfl⟩
     refine tb 2 rfl ?_
     refine AWH.one (i := 6) (by kernel_rfl) rfl ?_
     refine C1 rfl ce_28 (E rfl rfl) (evsC (E rfl rfl) (evsC (E rfl rfl) evs0)) (S1 := CB _ _ _ _) (S2 := [_]) rfl (put35 _ _ _ _ [_]) ?_
     rintro t98 S98 ⟨rfl, A98, c98, rfl⟩
     refine tb 2 rfl ?_
     refine AWH.one (i := 10) (by kernel_rfl) rfl ?_
     refine C1 rfl ce_29 (E rfl rfl) (evsC (E rfl rfl) (evsC (E rfl rfl) (evsC (E rfl rfl) evs0))) (S1 := CB _ _ _ _) (S2 := [_]) rfl (two36 _ _ _ _ _ _) ?_
     rintro t102 S102 ⟨rfl, A102, c102, rfl⟩
     refine tb 2 rfl ?_
     refine AWH.one (i := 13) (by kernel_rfl) rfl ?_
     refine C1 rfl ce_30 (E rfl rfl) (evsC (E rfl rfl) (evsC (E rfl rfl) (evsC (E rfl rfl) evs0))) (S1 := CB _ _ _ _) (S2 := [_]) rfl (imm37 _ _ _ _ _ 1) ?_
     rintro t105 S105 ⟨rfl, A105, c105, rfl⟩
     refine tb 2 rfl ?_
     refine AWH.done (by kernel_rfl) ?_
     refine AW.rseq ?_
     refine Y1 (Yv.move rfl eV) ?_
     refine Y1 (Yv.nilChk rfl eV) ?_
     refine Y1 (Yv.fieldBox rfl fo_49_0 eV) ?_
     refine Y1 (Yv.loadBox rfl ag_24 (i := 1) rfl (E rfl rfl) rfl) ?_
     refine Y1 (Yv.assign rfl eV) ?_
     refine Y1 (Yv.assign rfl eV) ?_
     refine nl ?_
     refine AW.drop (List.take_sublist 1 _) ?_
     refine AW.ret (retI (.tmp rfl (.tmp rfl .nil)) ?_)
     rw [if_pos hval]
     refine enc_end ?_
     rw [enc3 (by rw [h44t]; rfl)]
     skip
     try simp only [List.append_assoc]
     rfl
   · exfalso; replace h45f := of_decide_eq_false h45f; omega
  try replace h44f := of_decide_eq_false h44f
  refine AW.rseq ?_
  refine Y1 (Yv.eql rfl eV eV) ?_
  refine Y1 (Yv.assign rfl eV) ?_
  refine nl ?_
  refine AW.cond rfl (fun h46t => ?_) (fun h46f => ?_)
  ·
   try replace h46t := of_decide_eq_true h46t
   refine AW.skip ?_
   refine AW.cond rfl (fun h47t => ?_) (fun h47f => ?_)
   ·
    try replace h47t := of_decide_eq_true h47t
    refine AW.regionH (HeldBox b1 (insVals i)) rfl (tells_box (k := 2) rfl) ?_
    refine AWH.tk (i := 0) rfl rfl rfl (B rfl) (heldAll (freeMove rfl (E rfl rfl))) ?_
    refine AWH.tk (i := 1) rfl rfl rfl (B rfl) (heldAll (freeField rfl fo_23_1 (E rfl rfl))) ?_
    refine AWH.tk (i := 2) rfl rfl rfl (B rfl) (heldLoad rfl ag_3 (E rfl rfl) rfl) ?_
    refine AWH.tk (i := 4) rfl rfl rfl (B rfl) (heldAll (freeMove rfl (E rfl rfl))) ?_
    refine AWH.tk (i := 7) rfl rfl rfl (B rfl) (heldAll (freeMove rfl (E rfl rfl))) ?_
    refine AWH.tk (i := 8) rfl rfl rfl (B rfl) (heldAll (freeField rfl fo_23_1 (E rfl rfl))) ?_
    refine AWH.tk (i := 9) rfl rfl rfl (B rfl) (heldLoad rfl ag_3 (E rfl rfl) rfl) ?_
    refine AWH.tk (i := 11) rfl rfl rfl (B rfl) (heldAll (freeField rfl fo_23_5 (E rfl rfl))) ?_
    refine AWH.tk (i := 12) rfl rfl rfl (B rfl) (heldLoad rfl ag_2 (E rfl rfl) rfl) ?_
    refine AWH.two (i := 3) (j := 5) (by kernel_rfl) rfl rfl ?_ ?_
    ·
     refine C1 rfl ce_27 (E rfl rfl) (evsC (E rfl rfl) (evsC (E rfl rfl) (evsC (E rfl rfl) (evsC (E rfl rfl) evs0)))) (S1 := CB _ _ _ _) (S2 := [_]) rfl (rex34 _ _ _ _ _ _ _) ?_
     rintro t95 S95 ⟨rfl, A95, c95, rfl⟩
     refine tb 2 rfl ?_
     refine AWH.one (i := 5) (by kernel_rfl) rfl ?_
     refine AWL.buildSlice1 rfl rfl (B rfl) rfl el_43 rfl (evsC (E rfl rfl) evs0) (Nat.le_of_ble_eq_true rfl) rfl rfl ?_
     refine tb 2 rfl ?_
     refine AWH.one (i := 6) (by kernel_rfl) rfl ?_
     refine C1 rfl ce_28 (E rfl rfl) (evsC (E rfl rfl) (evsC (E rfl rfl) evs0)) (S1 := CB _ _ _ _) (S2 := [_]) rfl (put35 _ _ _ _ [_]) ?_
     rintro t98 S98 ⟨rfl, A98, c98, rfl⟩
     refine tb 2 rfl ?_
     refine AWH.one (i := 10) (by kernel_rfl) rfl ?_
     refine C1 rfl ce_29 (E rfl rfl) (evsC (E rfl rfl) (evsC (E rfl rfl) (evsC (E rfl rfl) evs0))) (S1 := CB _ _ _ _) (S2 := [_]) rfl (two36 _ _ _ _ _ _) ?_
     rintro t102 S102 ⟨rfl, A102, c102, rfl⟩
     refine tb 2 rfl ?_
     refine AWH.one (i := 13) (by kernel_rfl) rfl ?_
     refine C1 rfl ce_30 (E rfl rfl) (evsC (E rfl rfl) (evsC (E rfl rfl) (evsC (E rfl rfl) evs0))) (S1 := CB _ _ _ _) (S2 := [_]) rfl (imm37 _ _ _ _ _ 1) ?_
     rintro t105 S105 ⟨rfl, A105, c105, rfl⟩
     refine tb 2 rfl ?_
     refine AWH.done (by kernel_rfl) ?_
     refine AW.rseq ?_
     refine Y1 (Yv.move rfl eV) ?_
     refine Y1 (Yv.nilChk rfl eV) ?_
     refine Y1 (Yv.fieldBox rfl fo_49_0 eV) ?_
     refine Y1 (Yv.loadBox rfl ag_24 (i := 1) rfl (E rfl rfl) rfl) ?_
     refine Y1 (Yv.assign rfl eV) ?_
     refine Y1 (Yv.assign rfl eV) ?_
     refine nl ?_
     refine AW.drop (List.take_sublist 1 _) ?_
     refine AW.ret (retI (.tmp rfl (.tmp rfl .nil)) ?_)
     rw [if_pos hval]
     refine enc_end ?_
     rw [enc3 (by rw [h46t]; rfl)]
     skip
     try simp only [List.append_assoc]
     rfl
    ·
     refine AWL.buildSlice1 rfl rfl (B rfl) rfl el_43 rfl (evsC (E rfl rfl) evs0) (Nat.le_of_ble_eq_true rfl) rfl rfl ?_
     refine tb 2 rfl ?_
     refine AWH.one (i := 3) (by kernel_rfl) rfl ?_
     refine C1 rfl ce_27 (E rfl rfl) (evsC (E rfl rfl) (evsC (E rfl rfl) (evsC (E rfl rfl) (evsC (E rfl rfl) evs0)))) (S1 := CB _ _ _ _) (S2 := [_]) rfl (rex34 _ _ _ _ _ _ _) ?_
     rintro t95 S95 ⟨rfl, A95, c95, rfl⟩
     refine tb 2 rfl ?_
     refine AWH.one (i := 6) (by kernel_rfl) rfl ?_
     refine C1 rfl ce_28 (E rfl rfl) (evsC (E rfl rfl) (evsC (E rfl rfl) evs0)) (S1 := CB _ _ _ _) (S2 := [_]) rfl (put35 _ _ _ _ [_]) ?_
     rintro t98 S98 ⟨rfl, A98, c98, rfl⟩
     refine tb 2 rfl ?_
     refine AWH.one (i := 10) (by kernel_rfl) rfl ?_
     refine C1 rfl ce_29 (E rfl rfl) (evsC (E rfl rfl) (evsC (E rfl rfl) (evsC (E rfl rfl) evs0))) (S1 := CB _ _ _ _) (S2 := [_]) rfl (two36 _ _ _ _ _ _) ?_
     rintro t102 S102 ⟨rfl, A102, c102, rfl⟩
     refine tb 2 rfl ?_
     refine AWH.one (i := 13) (by kernel_rfl) rfl ?_
     refine C1 rfl ce_30 (E rfl rfl) (evsC (E rfl rfl) (evsC (E rfl rfl) (evsC (E rfl rfl) evs0))) (S1 := CB _ _ _ _) (S2 := [_]) rfl (imm37 _ _ _ _ _ 1) ?_
     rintro t105 S105 ⟨rfl, A105, c105, rfl⟩
     refine tb 2 rfl ?_
     refine AWH.done (by kernel_rfl) ?_
     refine AW.rseq ?_
     refine Y1 (Yv.move rfl eV) ?_
     refine Y1 (Yv.nilChk rfl eV) ?_
     refine Y1 (Yv.fieldBox rfl fo_49_0 eV) ?_
     refine Y1 (Yv.loadBox rfl ag_24 (i := 1) rfl (E rfl rfl) rfl) ?_
     refine Y1 (Yv.assign rfl eV) ?_
     refine Y1 (Yv.assign rfl eV) ?_
     refine nl ?_
     refine AW.drop (List.take_sublist 1 _) ?_
     refine AW.ret (retI (.tmp rfl (.tmp rfl .nil)) ?_)
     rw [if_pos hval]
     refine enc_end ?_
     rw [enc3 (by rw [h46t]; rfl)]
     skip
     try simp only [List.append_assoc]
     rfl
   · exfalso; replace h47f := of_decide_eq_false h47f; omega
  try replace h46f := of_decide_eq_false h46f
  refine AW.region ?_
  refine Y1 (Yv.eql rfl eV eV) ?_
  refine Y1 (Yv.assign rfl eV) ?_
  refine nl ?_
  refine AW.cond rfl (fun h48t => ?_) (fun h48f => ?_)
  ·
   try replace h48t := of_decide_eq_true h48t
   refine AW.regionH (HeldBox b1 (insVals i)) rfl (tells_box (k := 2) rfl) ?_
   refine AWH.tk (i := 0) rfl rfl rfl (B rfl) (heldAll (freeMove rfl (E rfl rfl))) ?_
   refine AWH.tk (i := 1) rfl rfl rfl (B rfl) (heldAll (freeField rfl fo_23_1 (E rfl rfl))) ?_
   refine AWH.tk (i := 2) rfl rfl rfl (B rfl) (heldLoad rfl ag_3 (E rfl rfl) rfl) ?_
   refine AWH.tk (i := 4) rfl rfl rfl (B rfl) (heldAll (freeMove rfl (E rfl rfl))) ?_
   refine AWH.tk (i := 7) rfl rfl rfl (B rfl) (heldAll (freeMove rfl (E rfl rfl))) ?_
   refine AWH.tk (i := 8) rfl rfl rfl (B rfl) (heldAll (freeField rfl fo_23_1 (E rfl rfl))) ?_
   refine AWH.tk (i := 9) rfl rfl rfl (B rfl) (heldLoad rfl ag_3 (E rfl rfl) rfl) ?_
   refine AWH.tk (i := 11) rfl rfl rfl (B rfl) (heldAll (freeField rfl fo_23_5 (E rfl rfl))) ?_
   refine AWH.tk (i := 12) rfl rfl rfl (B rfl) (heldLoad rfl ag_2 (E rfl rfl) rfl) ?_
   refine AWH.two (i := 3) (j := 5) (by kernel_rfl) rfl rfl ?_ ?_
   ·
    refine C1 rfl ce_27 (E rfl rfl) (evsC (E rfl rfl) (evsC (E rfl rfl) (evsC (E rfl rfl) (evsC (E rfl rfl) evs0)))) (S1 := CB _ _ _ _) (S2 := [_]) rfl (rex34 _ _ _ _ _ _ _) ?_
    rintro t95 S95 ⟨rfl, A95, c95, rfl⟩
    refine tb 2 rfl ?_
    refine AWH.one (i := 5) (by kernel_rfl) rfl ?_
    refine AWL.buildSlice1 rfl rfl (B rfl) rfl el_43 rfl (evsC (E rfl rfl) evs0) (Nat.le_of_ble_eq_true rfl) rfl rfl ?_
    refine tb 2 rfl ?_
    refine AWH.one (i := 6) (by kernel_rfl) rfl ?_
    refine C1 rfl ce_28 (E rfl rfl) (evsC (E rfl rfl) (evsC (E rfl rfl) evs0)) (S1 := CB _ _ _ _) (S2 := [_]) rfl (put35 _ _ _ _ [_]) ?_
    rintro t98 S98 ⟨rfl, A98, c98, rfl⟩
    refine tb 2 rfl ?_
    refine AWH.one (i := 10) (by kernel_rfl) rfl ?_
    refine C1 rfl ce_29 (E rfl rfl) (evsC (E rfl rfl) (evsC (E rfl rfl) (evsC (E rfl rfl) evs0))) (S1 := CB _ _ _ _) (S2 := [_]) rfl (two36 _ _ _ _ _ _) ?_
    rintro t102 S102 ⟨rfl, A102, c102, rfl⟩
    refine tb 2 rfl ?_
    refine AWH.one (i := 13) (by kernel_rfl) rfl ?_
    refine C1 rfl ce_30 (E rfl rfl) (evsC (E rfl rfl) (evsC (E rfl rfl) (evsC (E rfl rfl) evs0))) (S1 := CB _ _ _ _) (S2 := [_]) rfl (imm37 _ _ _ _ _ 1) ?_
    rintro t105 S105 ⟨rfl, A105, c105, rfl⟩
    refine tb 2 rfl ?_
    refine AWH.done (by kernel_rfl) ?_
    refine AW.rseq ?_
    refine Y1 (Yv.move rfl eV) ?_
    refine Y1 (Yv.nilChk rfl eV) ?_
    refine Y1 (Yv.fieldBox rfl fo_49_0 eV) ?_
    refine Y1 (Yv.loadBox rfl ag_24 (i := 1) rfl (E rfl rfl) rfl) ?_
    refine Y1 (Yv.assign rfl eV) ?_
    refine Y1 (Yv.assign rfl eV) ?_
    refine nl ?_
    refine AW.drop (List.take_sublist 1 _) ?_
    refine AW.ret (retI (.tmp rfl (.tmp rfl .nil)) ?_)
    rw [if_pos hval]
    refine enc_end ?_
    rw [enc3 (by rw [h48t]; rfl)]
    skip
    try simp only [List.append_assoc]
    rfl
   ·
    refine AWL.buildSlice1 rfl rfl (B rfl) rfl el_43 rfl (evsC (E rfl rfl) evs0) (Nat.le_of_ble_eq_true rfl) rfl rfl ?_
    refine tb 2 rfl ?_
    refine AWH.one (i := 3) (by kernel_rfl) rfl ?_
    refine C1 rfl ce_27 (E rfl rfl) (evsC (E rfl rfl) (evsC (E rfl rfl) (evsC (E rfl rfl) (evsC (E rfl rfl) evs0)))) (S1 := CB _ _ _ _) (S2 := [_]) rfl (rex34 _ _ _ _ _ _ _) ?_
    rintro t95 S95 ⟨rfl, A95, c95, rfl⟩
    refine tb 2 rfl ?_
    refine AWH.one (i := 6) (by kernel_rfl) rfl ?_
    refine C1 rfl ce_28 (E rfl rfl) (evsC (E rfl rfl) (evsC (E rfl rfl) evs0)) (S1 := CB _ _ _ _) (S2 := [_]) rfl (put35 _ _ _ _ [_]) ?_
    rintro t98 S98 ⟨rfl, A98, c98, rfl⟩
    refine tb 2 rfl ?_
    refine AWH.one (i := 10) (by kernel_rfl) rfl ?_
    refine C1 rfl ce_29 (E rfl rfl) (evsC (E rfl rfl) (evsC (E rfl rfl) (evsC (E rfl rfl) evs0))) (S1 := CB _ _ _ _) (S2 := [_]) rfl (two36 _ _ _ _ _ _) ?_
    rintro t102 S102 ⟨rfl, A102, c102, rfl⟩
    refine tb 2 rfl ?_
    refine AWH.one (i := 13) (by kernel_rfl) rfl ?_
    refine C1 rfl ce_30 (E rfl rfl) (evsC (E rfl rfl) (evsC (E rfl rfl) (evsC (E rfl rfl) evs0))) (S1 := CB _ _ _ _) (S2 := [_]) rfl (imm37 _ _ _ _ _ 1) ?_
    rintro t105 S105 ⟨rfl, A105, c105, rfl⟩
    refine tb 2 rfl ?_
    refine AWH.done (by kernel_rfl) ?_
    refine AW.rseq ?_
    refine Y1 (Yv.move rfl eV) ?_
    refine Y1 (Yv.nilChk rfl eV) ?_
    refine Y1 (Yv.fieldBox rfl fo_49_0 eV) ?_
    refine Y1 (Yv.loadBox rfl ag_24 (i := 1) rfl (E rfl rfl) rfl) ?_
    refine Y1 (Yv.assign rfl eV) ?_
    refine Y1 (Yv.assign rfl eV) ?_
    refine nl ?_
    refine AW.drop (List.take_sublist 1 _) ?_
    refine AW.ret (retI (.tmp rfl (.tmp rfl .nil)) ?_)
    rw [if_pos hval]
    refine enc_end ?_
    rw [enc3 (by rw [h48t]; rfl)]
    skip
    try simp only [List.append_assoc]
    rfl
  try replace h48f := of_decide_eq_false h48f
  refine AW.seq ?_
  refine AW.rseq ?_
  refine Y1 (Yv.eql rfl eV eV) ?_
  refine Y1 (Yv.assign rfl eV) ?_
  refine nl ?_
  refine AW.cond rfl (fun h49t => ?_) (fun h49f => ?_)
  ·
   try replace h49t := of_decide_eq_true h49t
   refine AW.skip ?_
   refine AW.cond rfl (fun h50t => ?_) (fun h50f => ?_)
   ·
    try replace h50t := of_decide_eq_true h50t
    refine AW.regionH (HeldBox b1 (insVals i)) rfl (tells_box (k := 2) rfl) ?_
    refine AWH.tk (i := 0) rfl rfl rfl (B rfl) (heldAll (freeMove rfl (E rfl rfl))) ?_
    refine AWH.tk (i := 1) rfl rfl rfl (B rfl) (heldAll (freeField rfl fo_23_1 (E rfl rfl))) ?_
    refine AWH.tk (i := 2) rfl rfl rfl (B rfl) (heldLoad rfl ag_3 (E rfl rfl) rfl) ?_
    refine AWH.tk (i := 4) rfl rfl rfl (B rfl) (heldAll (freeMove rfl (E rfl rfl))) ?_
    refine AWH.tk (i := 7) rfl rfl rfl (B rfl) (heldAll (freeMove rfl (E rfl rfl))) ?_
    refine AWH.tk (i := 8) rfl rfl rfl (B rfl) (heldAll (freeField rfl fo_23_1 (E rfl rfl))) ?_
    refine AWH.tk (i := 9) rfl rfl rfl (B rfl) (heldLoad rfl ag_3 (E rfl rfl) rfl) ?_
    refine AWH.two (i := 3) (j := 5) (by kernel_rfl) rfl rfl ?_ ?_
    ·
     refine C1 rfl ce_27 (E rfl rfl) (evsC (E rfl rfl) (evsC (E rfl rfl) (evsC (E rfl rfl) (evsC (E rfl rfl) evs0)))) (S1 := CB _ _ _ _) (S2 := [_]) rfl (rex34 _ _ _ _ _ _ _) ?_
     rintro t112 S112 ⟨rfl, A112, c112, rfl⟩
     refine tb 2 rfl ?_
     refine AWH.one (i := 5) (by kernel_rfl) rfl ?_
     refine AWL.buildSlice1 rfl rfl (B rfl) rfl el_43 rfl (evsC (E rfl rfl) evs0) (Nat.le_of_ble_eq_true rfl) rfl rfl ?_
     refine tb 2 rfl ?_
     refine AWH.one (i := 6) (by kernel_rfl) rfl ?_
     refine C1 rfl ce_28 (E rfl rfl) (evsC (E rfl rfl) (evsC (E rfl rfl) evs0)) (S1 := CB _ _ _ _) (S2 := [_]) rfl (put35 _ _ _ _ [_]) ?_
     rintro t115 S115 ⟨rfl, A115, c115, rfl⟩
     refine tb 2 rfl ?_
     refine AWH.one (i := 10) (by kernel_rfl) rfl ?_
     refine C1 rfl ce_29 (E rfl rfl) (evsC (E rfl rfl) (evsC (E rfl rfl) (evsC (E rfl rfl) evs0))) (S1 := CB _ _ _ _) (S2 := [_]) rfl (two36 _ _ _ _ _ _) ?_
     rintro t119 S119 ⟨rfl, A119, c119, rfl⟩
     refine tb 2 rfl ?_
     refine AWH.done (by kernel_rfl) ?_
     refine AW.rseq ?_
     refine Y1 (Yv.move rfl eV) ?_
     refine Y1 (Yv.nilChk rfl eV) ?_
     refine Y1 (Yv.fieldBox rfl fo_49_0 eV) ?_
     refine Y1 (Yv.loadBox rfl ag_24 (i := 1) rfl (E rfl rfl) rfl) ?_
     refine Y1 (Yv.assign rfl eV) ?_
     refine Y1 (Yv.assign rfl eV) ?_
     refine nl ?_
     refine AW.drop (List.take_sublist 1 _) ?_
     refine AW.ret (retI (.tmp rfl (.tmp rfl .nil)) ?_)
     rw [if_pos hval]
     refine enc_end ?_
     rw [enc4 (by rw [h49t]; rfl)]
     skip
     try simp only [List.append_assoc]
     rfl
    ·
     refine AWL.buildSlice1 rfl rfl (B rfl) rfl el_43 rfl (evsC (E rfl rfl) evs0) (Nat.le_of_ble_eq_true rfl) rfl rfl ?_
     refine tb 2 rfl ?_
     refine AWH.one (i := 3) (by kernel_rfl) rfl ?_
     refine C1 rfl ce_27 (E rfl rfl) (evsC (E rfl rfl) (evsC (E rfl rfl) (evsC (E rfl rfl) (evsC (E rfl rfl) evs0)))) (S1 := CB _ _ _ _) (S2 := [_]) rfl (rex34 _ _ _ _ _ _ _) ?_
     rintro t112 S112 ⟨rfl, A112, c112, rfl⟩
     refine tb 2 rfl ?_
     refine AWH.one (i := 6) (by kernel_rfl) rfl ?_
     refine C1 rfl ce_28 (E rfl rfl) (evsC (E rfl rfl) (evsC (E rfl rfl) evs0)) (S1 := CB _ _ _ _) (S2 := [_]) rfl (put35 _ _ _ _ [_]) ?_
     rintro t115 S115 ⟨rfl, A115, c115, rfl⟩
     refine tb 2 rfl ?_
     refine AWH.one (i := 10) (by kernel_rfl) rfl ?_
     refine C1 rfl ce_29 (E rfl rfl) (evsC (E rfl rfl) (evsC (E rfl rfl) (evsC (E rfl rfl) evs0))) (S1 := CB _ _ _ _) (S2 := [_]) rfl (two36 _ _ _ _ _ _) ?_
     rintro t119 S119 ⟨rfl, A119, c119, rfl⟩
     refine tb 2 rfl ?_
     refine AWH.done (by kernel_rfl) ?_
     refine AW.rseq ?_
     refine Y1 (Yv.move rfl eV) ?_
     refine Y1 (Yv.nilChk rfl eV) ?_
     refine Y1 (Yv.fieldBox rfl fo_49_0 eV) ?_
     refine Y1 (Yv.loadBox rfl ag_24 (i := 1) rfl (E rfl rfl) rfl) ?_
     refine Y1 (Yv.assign rfl eV) ?_
     refine Y1 (Yv.assign rfl eV) ?_
     refine nl ?_
     refine AW.drop (List.take_sublist 1 _) ?_
     refine AW.ret (retI (.tmp rfl (.tmp rfl .nil)) ?_)
     rw [if_pos hval]
     refine enc_end ?_
     rw [enc4 (by rw [h49t]; rfl)]
     skip
     try simp only [List.append_assoc]
     rfl
   · exfalso; replace h50f := of_decide_eq_false h50f; omega
  try replace h49f := of_decide_eq_false h49f
  refine AW.region ?_
  refine Y1 (Yv.eql rfl eV eV) ?_
  refine Y1 (Yv.assign rfl eV) ?_
  refine nl ?_
  refine AW.cond rfl (fun h51t => ?_) (fun h51f => ?_)
  ·
   try replace h51t := of_decide_eq_true h51t
   refine AW.regionH (HeldBox b1 (insVals i)) rfl (tells_box (k := 2) rfl) ?_
   refine AWH.tk (i := 0) rfl rfl rfl (B rfl) (heldAll (freeMove rfl (E rfl rfl))) ?_
   refine AWH.tk (i := 1) rfl rfl rfl (B rfl) (heldAll (freeField rfl fo_23_1 (E rfl rfl))) ?_
   refine AWH.tk (i := 2) rfl rfl rfl (B rfl) (heldLoad rfl ag_3 (E rfl rfl) rfl) ?_
   refine AWH.tk (i := 4) rfl rfl rfl (B rfl) (heldAll (freeMove rfl (E rfl rfl))) ?_
   refine AWH.tk (i := 7) rfl rfl rfl (B rfl) (heldAll (freeMove rfl (E rfl rfl))) ?_
   refine AWH.tk (i := 8) rfl rfl rfl (B rfl) (heldAll (freeField rfl fo_23_1 (E rfl rfl))) ?_
   refine AWH.tk (i := 9) rfl rfl rfl (B rfl) (heldLoad rfl ag_3 (E rfl rfl) rfl) ?_
   refine AWH.two (i := 3) (j := 5) (by kernel_rfl) rfl rfl ?_ ?_
   ·
    refine C1 rfl ce_27 (E rfl rfl) (evsC (E rfl rfl) (evsC (E rfl rfl) (evsC (E rfl rfl) (evsC (E rfl rfl) evs0)))) (S1 := CB _ _ _ _) (S2 := [_]) rfl (rex34 _ _ _ _ _ _ _) ?_
    rintro t112 S112 ⟨rfl, A112, c112, rfl⟩
    refine tb 2 rfl ?_
    refine AWH.one (i := 5) (by kernel_rfl) rfl ?_
    refine AWL.buildSlice1 rfl rfl (B rfl) rfl el_43 rfl (evsC (E rfl rfl) evs0) (Nat.le_of_ble_eq_true rfl) rfl rfl ?_
    refine tb 2 rfl ?_
    refine AWH.one (i := 6) (by kernel_rfl) rfl ?_
    refine C1 rfl ce_28 (E rfl rfl) (evsC (E rfl rfl) (evsC (E rfl rfl) evs0)) (S1 := CB _ _ _ _) (S2 := [_]) rfl (put35 _ _ _ _ [_]) ?_
    rintro t115 S115 ⟨rfl, A115, c115, rfl⟩
    refine tb 2 rfl ?_
    refine AWH.one (i := 10) (by kernel_rfl) rfl ?_
    refine C1 rfl ce_29 (E rfl rfl) (evsC (E rfl rfl) (evsC (E rfl rfl) (evsC (E rfl rfl) evs0))) (S1 := CB _ _ _ _) (S2 := [_]) rfl (two36 _ _ _ _ _ _) ?_
    rintro t119 S119 ⟨rfl, A119, c119, rfl⟩
    refine tb 2 rfl ?_
    refine AWH.done (by kernel_rfl) ?_
    refine AW.rseq ?_
    refine Y1 (Yv.move rfl eV) ?_
    refine Y1 (Yv.nilChk rfl eV) ?_
    refine Y1 (Yv.fieldBox rfl fo_49_0 eV) ?_
    refine Y1 (Yv.loadBox rfl ag_24 (i := 1) rfl (E rfl rfl) rfl) ?_
    refine Y1 (Yv.assign rfl eV) ?_
    refine Y1 (Yv.assign rfl eV) ?_
    refine nl ?_
    refine AW.drop (List.take_sublist 1 _) ?_
    refine AW.ret (retI (.tmp rfl (.tmp rfl .nil)) ?_)
    rw [if_pos hval]
    refine enc_end ?_
    rw [enc4 (by rw [h51t]; rfl)]
    skip
    try simp only [List.append_assoc]
    rfl
   ·
    refine AWL.buildSlice1 rfl rfl (B rfl) rfl el_43 rfl (evsC (E rfl rfl) evs0) (Nat.le_of_ble_eq_true rfl) rfl rfl ?_
    refine tb 2 rfl ?_
    refine AWH.one (i := 3) (by kernel_rfl) rfl ?_
    refine C1 rfl ce_27 (E rfl rfl) (evsC (E rfl rfl) (evsC (E rfl rfl) (evsC (E rfl rfl) (evsC (E rfl rfl) evs0)))) (S1 := CB _ _ _ _) (S2 := [_]) rfl (rex34 _ _ _ _ _ _ _) ?_
    rintro t112 S112 ⟨rfl, A112, c112, rfl⟩
    refine tb 2 rfl ?_
    refine AWH.one (i := 6) (by kernel_rfl) rfl ?_
    refine C1 rfl ce_28 (E rfl rfl) (evsC (E rfl rfl) (evsC (E rfl rfl) evs0)) (S1 := CB _ _ _ _) (S2 := [_]) rfl (put35 _ _ _ _ [_]) ?_
    rintro t115 S115 ⟨rfl, A115, c115, rfl⟩
    refine tb 2 rfl ?_
    refine AWH.one (i := 10) (by kernel_rfl) rfl ?_
    refine C1 rfl ce_29 (E rfl rfl) (evsC (E rfl rfl) (evsC (E rfl rfl) (evsC (E rfl rfl) evs0))) (S1 := CB _ _ _ _) (S2 := [_]) rfl (two36 _ _ _ _ _ _) ?_
    rintro t119 S119 ⟨rfl, A119, c119, rfl⟩
    refine tb 2 rfl ?_
    refine AWH.done (by kernel_rfl) ?_
    refine AW.rseq ?_
    refine Y1 (Yv.move rfl eV) ?_
    refine Y1 (Yv.nilChk rfl eV) ?_
    refine Y1 (Yv.fieldBox rfl fo_49_0 eV) ?_
    refine Y1 (Yv.loadBox rfl ag_24 (i := 1) rfl (E rfl rfl) rfl) ?_
    refine Y1 (Yv.assign rfl eV) ?_
    refine Y1 (Yv.assign rfl eV) ?_
    refine nl ?_
    refine AW.drop (List.take_sublist 1 _) ?_
    refine AW.ret (retI (.tmp rfl (.tmp rfl .nil)) ?_)
    rw [if_pos hval]
    refine enc_end ?_
    rw [enc4 (by rw [h51t]; rfl)]
    skip
    try simp only [List.append_assoc]
    rfl
  try replace h51f := of_decide_eq_false h51f
  refine AW.rseq ?_
  refine Y1 (Yv.eql rfl eV eV) ?_
  refine Y1 (Yv.assign rfl eV) ?_
  refine nl ?_
  refine AW.cond rfl (fun h52t => ?_) (fun h52f => ?_)
  ·
   try replace h52t := of_decide_eq_true h52t
   refine AW.rseq ?_
   refine Y1 (Yv.fieldBox rfl fo_23_5 eV) ?_
   refine Y1 (Yv.loadBox rfl ag_2 (i := 2) rfl (E rfl rfl) rfl) ?_
   refine AWL.callP rfl rfl (B rfl) rfl ce_31 (E rfl rfl) (evsC (E rfl rfl) evs0) (small38 i.imm) (fun t S h => h) ?_
   refine nl ?_
   refine AW.cond rfl (fun h53t => ?_) (fun h53f => ?_)
   ·
    try replace h53t := of_decide_eq_true h53t
    refine AW.regionH (HeldBox b1 (insVals i)) rfl (tells_box (k := 2) rfl) ?_
    refine AWH.tk (i := 0) rfl rfl rfl (B rfl) (heldAll (freeMove rfl (E rfl rfl))) ?_
    refine AWH.tk (i := 1) rfl rfl rfl (B rfl) (heldAll (freeField rfl fo_23_1 (E rfl rfl))) ?_
    refine AWH.tk (i := 2) rfl rfl rfl (B rfl) (heldLoad rfl ag_3 (E rfl rfl) rfl) ?_
    refine AWH.tk (i := 6) rfl rfl rfl (B rfl) (heldAll (freeField rfl fo_23_1 (E rfl rfl))) ?_
    refine AWH.tk (i := 7) rfl rfl rfl (B rfl) (heldLoad rfl ag_3 (E rfl rfl) rfl) ?_
    refine AWH.tk (i := 9) rfl rfl rfl (B rfl) (heldAll (freeField rfl fo_23_5 (E rfl rfl))) ?_
    refine AWH.tk (i := 10) rfl rfl rfl (B rfl) (heldLoad rfl ag_2 (E rfl rfl) rfl) ?_
    refine AWH.two (i := 3) (j := 4) (by kernel_rfl) rfl rfl ?_ ?_
    ·
     refine C1 rfl ce_27 (E rfl rfl) (evsC (E rfl rfl) (evsC (E rfl rfl) (evsC (E rfl rfl) (evsC (E rfl rfl) evs0)))) (S1 := CB _ _ _ _) (S2 := [_]) rfl (rex34 _ _ _ _ _ _ _) ?_
     rintro t128 S128 ⟨rfl, A128, c128, rfl⟩
     refine tb 2 rfl ?_
     refine AWH.one (i := 4) (by kernel_rfl) rfl ?_
     refine AWL.buildSlice1 rfl rfl (B rfl) rfl el_43 rfl (evsC (E rfl rfl) evs0) (Nat.le_of_ble_eq_true rfl) rfl rfl ?_
     refine tb 2 rfl ?_
     refine AWH.one (i := 5) (by kernel_rfl) rfl ?_
     refine C1 rfl ce_28 (E rfl rfl) (evsC (E rfl rfl) (evsC (E rfl rfl) evs0)) (S1 := CB _ _ _ _) (S2 := [_]) rfl (put35 _ _ _ _ [_]) ?_
     rintro t130 S130 ⟨rfl, A130, c130, rfl⟩
     refine tb 2 rfl ?_
     refine AWH.one (i := 8) (by kernel_rfl) rfl ?_
     refine C1 rfl ce_29 (E rfl rfl) (evsC (E rfl rfl) (evsC (E rfl rfl) (evsC (E rfl rfl) evs0))) (S1 := CB _ _ _ _) (S2 := [_]) rfl (two36 _ _ _ _ _ _) ?_
     rintro t133 S133 ⟨rfl, A133, c133, rfl⟩
     refine tb 2 rfl ?_
     refine AWH.one (i := 11) (by kernel_rfl) rfl ?_
     refine C1 rfl ce_30 (E rfl rfl) (evsC (E rfl rfl) (evsC (E rfl rfl) (evsC (E rfl rfl) evs0))) (S1 := CB _ _ _ _) (S2 := [_]) rfl (imm37 _ _ _ _ _ 4) ?_
     rintro t136 S136 ⟨rfl, A136, c136, rfl⟩
     refine tb 2 rfl ?_
     refine AWH.done (by kernel_rfl) ?_
     refine AW.rseq ?_
     refine Y1 (Yv.move rfl eV) ?_
     refine Y1 (Yv.nilChk rfl eV) ?_
     refine Y1 (Yv.fieldBox rfl fo_49_0 eV) ?_
     refine Y1 (Yv.loadBox rfl ag_24 (i := 1) rfl (E rfl rfl) rfl) ?_
     refine Y1 (Yv.assign rfl eV) ?_
     refine Y1 (Yv.assign rfl eV) ?_
     refine nl ?_
     refine AW.drop (List.take_sublist 1 _) ?_
     refine AW.ret (retI (.tmp rfl (.tmp rfl .nil)) ?_)
     rw [if_pos hval]
     refine enc_end ?_
     rw [enc5 (by rw [h52t]; rfl), if_pos (by assumption)]
     skip
     try simp only [List.append_assoc]
     rfl
    ·
     refine AWL.buildSlice1 rfl rfl (B rfl) rfl el_43 rfl (evsC (E rfl rfl) evs0) (Nat.le_of_ble_eq_true rfl) rfl rfl ?_
     refine tb 2 rfl ?_
     refine AWH.one (i := 3) (by kernel_rfl) rfl ?_
     refine C1 rfl ce_27 (E rfl rfl) (evsC (E rfl rfl) (evsC (E rfl rfl) (evsC (E rfl rfl) (evsC (E rfl rfl) evs0)))) (S1 := CB _ _ _ _) (S2 := [_]) rfl (rex34 _ _ _ _ _ _ _) ?_
     rintro t128 S128 ⟨rfl, A128, c128, rfl⟩
     refine tb 2 rfl ?_
     refine AWH.one (i := 5) (by kernel_rfl) rfl ?_
     refine C1 rfl ce_28 (E rfl rfl) (evsC (E rfl rfl) (evsC (E rfl rfl) evs0)) (S1 := CB _ _ _ _) (S2 := [_]) rfl (put35 _ _ _ _ [_]) ?_
     rintro t130 S130 ⟨rfl, A130, c130, rfl⟩
     refine tb 2 rfl ?_
     refine AWH.one (i := 8) (by kernel_rfl) rfl ?_
     refine C1 rfl ce_29 (E rfl rfl) (evsC (E rfl rfl) (evsC (E rfl rfl) (evsC (E rfl rfl) evs0))) (S1 := CB _ _ _ _) (S2 := [_]) rfl (two36 _ _ _ _ _ _) ?_
     rintro t133 S133 ⟨rfl, A133, c133, rfl⟩
     refine tb 2 rfl ?_
     refine AWH.one (i := 11) (by kernel_rfl) rfl ?_
     refine C1 rfl ce_30 (E rfl rfl) (evsC (E rfl rfl) (evsC (E rfl rfl) (evsC (E rfl rfl) evs0))) (S1 := CB _ _ _ _) (S2 := [_]) rfl (imm37 _ _ _ _ _ 4) ?_
     rintro t136 S136 ⟨rfl, A136, c136, rfl⟩
     refine tb 2 rfl ?_
     refine AWH.done (by kernel_rfl) ?_
     refine AW.rseq ?_
     refine Y1 (Yv.move rfl eV) ?_
     refine Y1 (Yv.nilChk rfl eV) ?_
     refine Y1 (Yv.fieldBox rfl fo_49_0 eV) ?_
     refine Y1 (Yv.loadBox rfl ag_24 (i := 1) rfl (E rfl rfl) rfl) ?_
     refine Y1 (Yv.assign rfl eV) ?_
     refine Y1 (Yv.assign rfl eV) ?_
     refine nl ?_
     refine AW.drop (List.take_sublist 1 _) ?_
     refine AW.ret (retI (.tmp rfl (.tmp rfl .nil)) ?_)
     rw [if_pos hval]
     refine enc_end ?_
     rw [enc5 (by rw [h52t]; rfl), if_pos (by assumption)]
     skip
     try simp only [List.append_assoc]
     rfl
   try replace h53f := of_decide_eq_false h53f
   refine AW.regionH (HeldBox b1 (insVals i)) rfl (tells_box (k := 2) rfl) ?_
   refine AWH.tk (i := 0) rfl rfl rfl (B rfl) (heldAll (freeMove rfl (E rfl rfl))) ?_
   refine AWH.tk (i := 1) rfl rfl rfl (B rfl) (heldAll (freeField rfl fo_23_1 (E rfl rfl))) ?_
   refine AWH.tk (i := 2) rfl rfl rfl (B rfl) (heldLoad rfl ag_3 (E rfl rfl) rfl) ?_
   refine AWH.tk (i := 4) rfl rfl rfl (B rfl) (heldAll (freeField rfl fo_23_1 (E rfl rfl))) ?_
   refine AWH.tk (i := 5) rfl rfl rfl (B rfl) (heldLoad rfl ag_3 (E rfl rfl) rfl) ?_
   refine AWH.tk (i := 10) rfl rfl rfl (B rfl) (heldAll (freeField rfl fo_23_5 (E rfl rfl))) ?_
   refine AWH.tk (i := 11) rfl rfl rfl (B rfl) (heldLoad rfl ag_2 (E rfl rfl) rfl) ?_
   refine AWH.two (i := 3) (j := 6) (by kernel_rfl) rfl rfl ?_ ?_
   ·
    refine C1 rfl ce_27 (E rfl rfl) (evsC (E rfl rfl) (evsC (E rfl rfl) (evsC (E rfl rfl) (evsC (E rfl rfl) evs0)))) (S1 := CB _ _ _ _) (S2 := [_]) rfl (rex34 _ _ _ _ _ _ _) ?_
    rintro t140 S140 ⟨rfl, A140, c140, rfl⟩
    refine tb 2 rfl ?_
    refine AWH.one (i := 6) (by kernel_rfl) rfl ?_
    refine Y1 (Yv.andN_i64 3 8 (by decide) (by decide) (by decide) rfl (E rfl rfl) (E rfl rfl) (fun hg => ⟨by omega, by omega⟩)) ?_
    refine tb 2 rfl ?_
    refine AWH.one (i := 7) (by kernel_rfl) rfl ?_
    refine Y1 (Yv.bits rfl rfl (E rfl rfl) (E rfl rfl)) ?_
    refine tb 2 rfl ?_
    refine AWH.one (i := 8) (by kernel_rfl) rfl ?_
    refine AWL.buildSlice1 rfl rfl (B rfl) rfl el_43 rfl (evsC (E rfl rfl) evs0) (Nat.le_of_ble_eq_true rfl) rfl rfl ?_
    refine tb 2 rfl ?_
    refine AWH.one (i := 9) (by kernel_rfl) rfl ?_
    refine C1 rfl ce_28 (E rfl rfl) (evsC (E rfl rfl) (evsC (E rfl rfl) evs0)) (S1 := CB _ _ _ _) (S2 := [_]) rfl (put35 _ _ _ _ [_]) ?_
    rintro t146 S146 ⟨rfl, A146, c146, rfl⟩
    refine tb 2 rfl ?_
    refine AWH.one (i := 12) (by kernel_rfl) rfl ?_
    refine C1 rfl ce_30 (E rfl rfl) (evsC (E rfl rfl) (evsC (E rfl rfl) (evsC (E rfl rfl) evs0))) (S1 := CB _ _ _ _) (S2 := [_]) rfl (imm37 _ _ _ _ _ 8) ?_
    rintro t149 S149 ⟨rfl, A149, c149, rfl⟩
    refine tb 2 rfl ?_
    refine AWH.done (by kernel_rfl) ?_
    refine AW.rseq ?_
    refine Y1 (Yv.move rfl eV) ?_
    refine Y1 (Yv.nilChk rfl eV) ?_
    refine Y1 (Yv.fieldBox rfl fo_49_0 eV) ?_
    refine Y1 (Yv.loadBox rfl ag_24 (i := 1) rfl (E rfl rfl) rfl) ?_
    refine Y1 (Yv.assign rfl eV) ?_
    refine Y1 (Yv.assign rfl eV) ?_
    refine nl ?_
    refine AW.drop (List.take_sublist 1 _) ?_
    refine AW.ret (retI (.tmp rfl (.tmp rfl .nil)) ?_)
    rw [if_pos hval]
    refine enc_end ?_
    rw [enc5 (by rw [h52t]; rfl), if_neg (ne_true_of_eq_false (by assumption))]
    rw [← r3]
    try simp only [List.append_assoc]
    rfl
   ·
    refine Y1 (Yv.andN_i64 3 8 (by decide) (by decide) (by decide) rfl (E rfl rfl) (E rfl rfl) (fun hg => ⟨by omega, by omega⟩)) ?_
    refine tb 2 rfl ?_
    refine AWH.two (i := 3) (j := 7) (by kernel_rfl) rfl rfl ?_ ?_
    ·
     refine C1 rfl ce_27 (E rfl rfl) (evsC (E rfl rfl) (evsC (E rfl rfl) (evsC (E rfl rfl) (evsC (E rfl rfl) evs0)))) (S1 := CB _ _ _ _) (S2 := [_]) rfl (rex34 _ _ _ _ _ _ _) ?_
     rintro t140 S140 ⟨rfl, A140, c140, rfl⟩
     refine tb 2 rfl ?_
     refine AWH.one (i := 7) (by kernel_rfl) rfl ?_
     refine Y1 (Yv.bits rfl rfl (E rfl rfl) (E rfl rfl)) ?_
     refine tb 2 rfl ?_
     refine AWH.one (i := 8) (by kernel_rfl) rfl ?_
     refine AWL.buildSlice1 rfl rfl (B rfl) rfl el_43 rfl (evsC (E rfl rfl) evs0) (Nat.le_of_ble_eq_true rfl) rfl rfl ?_
     refine tb 2 rfl ?_
     refine AWH.one (i := 9) (by kernel_rfl) rfl ?_
     refine C1 rfl ce_28 (E rfl rfl) (evsC (E rfl rfl) (evsC (E rfl rfl) evs0)) (S1 := CB _ _ _ _) (S2 := [_]) rfl (put35 _ _ _ _ [_]) ?_
     rintro t146 S146 ⟨rfl, A146, c146, rfl⟩
     refine tb 2 rfl ?_
     refine AWH.one (i := 12) (by kernel_rfl) rfl ?_
     refine C1 rfl ce_30 (E rfl rfl) (evsC (E rfl rfl) (evsC (E rfl rfl) (evsC (E rfl rfl) evs0))) (S1 := CB _ _ _ _) (S2 := [_]) rfl (imm37 _ _ _ _ _ 8) ?_
     rintro t149 S149 ⟨rfl, A149, c149, rfl⟩
     refine tb 2 rfl ?_
     refine AWH.done (by kernel_rfl) ?_
     refine AW.rseq ?_
     refine Y1 (Yv.move rfl eV) ?_
     refine Y1 (Yv.nilChk rfl eV) ?_
     refine Y1 (Yv.fieldBox rfl fo_49_0 eV) ?_
     refine Y1 (Yv.loadBox rfl ag_24 (i := 1) rfl (E rfl rfl) rfl) ?_
     refine Y1 (Yv.assign rfl eV) ?_
     refine Y1 (Yv.assign rfl eV) ?_
     refine nl ?_
     refine AW.drop (List.take_sublist 1 _) ?_
     refine AW.ret (retI (.tmp rfl (.tmp rfl .nil)) ?_)
     rw [if_pos hval]
     refine enc_end ?_
     rw [enc5 (by rw [h52t]; rfl), if_neg (ne_true_of_eq_false (by assumption))]
     rw [← r3]
     try simp only [List.append_assoc]
     rfl
    ·
     refine Y1 (Yv.bits rfl rfl (E rfl rfl) (E rfl rfl)) ?_
     refine tb 2 rfl ?_
     refine AWH.two (i := 3) (j := 8) (by kernel_rfl) rfl rfl ?_ ?_
     ·
      refine C1 rfl ce_27 (E rfl rfl) (evsC (E rfl rfl) (evsC (E rfl rfl) (evsC (E rfl rfl) (evsC (E rfl rfl) evs0)))) (S1 := CB _ _ _ _) (S2 := [_]) rfl (rex34 _ _ _ _ _ _ _) ?_
      rintro t140 S140 ⟨rfl, A140, c140, rfl⟩
      refine tb 2 rfl ?_
      refine AWH.one (i := 8) (by kernel_rfl) rfl ?_
      refine AWL.buildSlice1 rfl rfl (B rfl) rfl el_43 rfl (evsC (E rfl rfl) evs0) (Nat.le_of_ble_eq_true rfl) rfl rfl ?_
      refine tb 2 rfl ?_
      refine AWH.one (i := 9) (by kernel_rfl) rfl ?_
      refine C1 rfl ce_28 (E rfl rfl) (evsC (E rfl rfl) (evsC (E rfl rfl) evs0)) (S1 := CB _ _ _ _) (S2 := [_]) rfl (put35 _ _ _ _ [_]) ?_
      rintro t146 S146 ⟨rfl, A146, c146, rfl⟩
      refine tb 2 rfl ?_
      refine AWH.one (i := 12) (by kernel_rfl) rfl ?_
      refine C1 rfl ce_30 (E rfl rfl) (evsC (E rfl rfl) (evsC (E rfl rfl) (evsC (E rfl rfl) evs0))) (S1 := CB _ _ _ _) (S2 := [_]) rfl (imm37 _ _ _ _ _ 8) ?_
      rintro t149 S149 ⟨rfl, A149, c149, rfl⟩
      refine tb 2 rfl ?_
      refine AWH.done (by kernel_rfl) ?_
      refine AW.rseq ?_
      refine Y1 (Yv.move rfl eV) ?_
      refine Y1 (Yv.nilChk rfl eV) ?_
      refine Y1 (Yv.fieldBox rfl fo_49_0 eV) ?_
      refine Y1 (Yv.loadBox rfl ag_24 (i := 1) rfl (E rfl rfl) rfl) ?_
      refine Y1 (Yv.assign rfl eV) ?_
      refine Y1 (Yv.assign rfl eV) ?_
      refine nl ?_
      refine AW.drop (List.take_sublist 1 _) ?_
      refine AW.ret (retI (.tmp rfl (.tmp rfl .nil)) ?_)
      rw [if_pos hval]
      refine enc_end ?_
      rw [enc5 (by rw [h52t]; rfl), if_neg (ne_true_of_eq_false (by assumption))]
      rw [← r3]
      try simp only [List.append_assoc]
      rfl
     ·
      refine AWL.buildSlice1 rfl rfl (B rfl) rfl el_43 rfl (evsC (E rfl rfl) evs0) (Nat.le_of_ble_eq_true rfl) rfl rfl ?_
      refine tb 2 rfl ?_
      refine AWH.one (i := 3) (by kernel_rfl) rfl ?_
      refine C1 rfl ce_27 (E rfl rfl) (evsC (E rfl rfl) (evsC (E rfl rfl) (evsC (E rfl rfl) (evsC (E rfl rfl) evs0)))) (S1 := CB _ _ _ _) (S2 := [_]) rfl (rex34 _ _ _ _ _ _ _) ?_
      rintro t140 S140 ⟨rfl, A140, c140, rfl⟩
      refine tb 2 rfl ?_
      refine AWH.one (i := 9) (by kernel_rfl) rfl ?_
      refine C1 rfl ce_28 (E rfl rfl) (evsC (E rfl rfl) (evsC (E rfl rfl) evs0)) (S1 := CB _ _ _ _) (S2 := [_]) rfl (put35 _ _ _ _ [_]) ?_
      rintro t146 S146 ⟨rfl, A146, c146, rfl⟩
      refine tb 2 rfl ?_
      refine AWH.one (i := 12) (by kernel_rfl) rfl ?_
      refine C1 rfl ce_30 (E rfl rfl) (evsC (E rfl rfl) (evsC (E rfl rfl) (evsC (E rfl rfl) evs0))) (S1 := CB _ _ _ _) (S2 := [_]) rfl (imm37 _ _ _ _ _ 8) ?_
      rintro t149 S149 ⟨rfl, A149, c149, rfl⟩
      refine tb 2 rfl ?_
      refine AWH.done (by kernel_rfl) ?_
      refine AW.rseq ?_
      refine Y1 (Yv.move rfl eV) ?_
      refine Y1 (Yv.nilChk rfl eV) ?_
      refine Y1 (Yv.fieldBox rfl fo_49_0 eV) ?_
      refine Y1 (Yv.loadBox rfl ag_24 (i := 1) rfl (E rfl rfl) rfl) ?_
      refine Y1 (Yv.assign rfl eV) ?_
      refine Y1 (Yv.assign rfl eV) ?_
      refine nl ?_
      refine AW.drop (List.take_sublist 1 _) ?_
      refine AW.ret (retI (.tmp rfl (.tmp rfl .nil)) ?_)
      rw [if_pos hval]
      refine enc_end ?_
      rw [enc5 (by rw [h52t]; rfl), if_neg (ne_true_of_eq_false (by assumption))]
      rw [← r3]
      try simp only [List.append_assoc]
      rfl
  try replace h52f := of_decide_eq_false h52f
  refine AW.seq ?_
  refine AW.rseq ?_
  refine Y1 (Yv.eql rfl eV eV) ?_
  refine Y1 (Yv.assign rfl eV) ?_
  refine nl ?_
  refine AW.cond rfl (fun h54t => ?_) (fun h54f => ?_)
  ·
   try replace h54t := of_decide_eq_true h54t
   refine AW.skip ?_
   refine AW.cond rfl (fun h55t => ?_) (fun h55f => ?_)
   ·
    try replace h55t := of_decide_eq_true h55t
    refine AW.region ?_
    refine Y1 (Yv.move rfl eV) ?_
    refine Y1 (Yv.loadBoxA rfl ag_23 (i := 2) rfl (E rfl rfl) rfl rfl) ?_
    refine C1 rfl ce_32 (E rfl rfl) (evsC (E rfl rfl) (evsC (E rfl rfl) evs0)) (S1 := CB _ _ _ _) (S2 := [_]) rfl (memory39 b11 _ _ _ i hd hs hc (by simp)) ?_
    rintro t156 S156 ⟨A156, c156, e156, rfl⟩
    refine nl ?_
    refine AW.rseq ?_
    refine Y1 (Yv.move rfl eV) ?_
    refine Y1 (Yv.nilChk rfl eV) ?_
    refine Y1 (Yv.fieldBox rfl fo_49_0 eV) ?_
    refine Y1 (Yv.loadBox rfl ag_24 (i := 1) rfl (E rfl rfl) rfl) ?_
    refine Y1 (Yv.assign rfl eV) ?_
    refine Y1 (Yv.assign rfl eV) ?_
    refine nl ?_
    refine AW.drop (List.take_sublist 1 _) ?_
    refine AW.ret (retI (.tmp rfl (.tmp rfl .nil)) ?_)
    rw [if_pos hval]
    refine enc_end ?_
    rw [enc6 (by rw [h54t]; rfl)]
    skip
    try simp only [List.append_assoc]
    rfl
   · exfalso; replace h55f := of_decide_eq_false h55f; omega
  try replace h54f := of_decide_eq_false h54f
  refine AW.rseq ?_
  refine Y1 (Yv.eql rfl eV eV) ?_
  refine Y1 (Yv.assign rfl eV) ?_
  refine nl ?_
  refine AW.cond rfl (fun h56t => ?_) (fun h56f => ?_)
  ·
   try replace h56t := of_decide_eq_true h56t
   refine AW.skip ?_
   refine AW.cond rfl (fun h57t => ?_) (fun h57f => ?_)
   ·
    try replace h57t := of_decide_eq_true h57t
    refine AW.region ?_
    refine Y1 (Yv.move rfl eV) ?_
    refine Y1 (Yv.loadBoxA rfl ag_23 (i := 2) rfl (E rfl rfl) rfl rfl) ?_
    refine C1 rfl ce_32 (E rfl rfl) (evsC (E rfl rfl) (evsC (E rfl rfl) evs0)) (S1 := CB _ _ _ _) (S2 := [_]) rfl (memory39 b11 _ _ _ i hd hs hc (by simp)) ?_
    rintro t156 S156 ⟨A156, c156, e156, rfl⟩
    refine nl ?_
    refine AW.rseq ?_
    refine Y1 (Yv.move rfl eV) ?_
    refine Y1 (Yv.nilChk rfl eV) ?_
    refine Y1 (Yv.fieldBox rfl fo_49_0 eV) ?_
    refine Y1 (Yv.loadBox rfl ag_24 (i := 1) rfl (E rfl rfl) rfl) ?_
    refine Y1 (Yv.assign rfl eV) ?_
    refine Y1 (Yv.assign rfl eV) ?_
    refine nl ?_
    refine AW.drop (List.take_sublist 1 _) ?_
    refine AW.ret (retI (.tmp rfl (.tmp rfl .nil)) ?_)
    rw [if_pos hval]
    refine enc_end ?_
    rw [enc6 (by rw [h56t]; rfl)]
    skip
    try simp only [List.append_assoc]
    rfl
   · exfalso; replace h57f := of_decide_eq_false h57f; omega
  try replace h56f := of_decide_eq_false h56f
  refine AW.region ?_
  refine Y1 (Yv.eql rfl eV eV) ?_
  refine Y1 (Yv.assign rfl eV) ?_
  refine nl ?_
  refine AW.cond rfl (fun h58t => ?_) (fun h58f => ?_)
  ·
   try replace h58t := of_decide_eq_true h58t
   refine AW.region ?_
   refine Y1 (Yv.move rfl eV) ?_
   refine Y1 (Yv.loadBoxA rfl ag_23 (i := 2) rfl (E rfl rfl) rfl rfl) ?_
   refine C1 rfl ce_32 (E rfl rfl) (evsC (E rfl rfl) (evsC (E rfl rfl) evs0)) (S1 := CB _ _ _ _) (S2 := [_]) rfl (memory39 b11 _ _ _ i hd hs hc (by simp)) ?_
   rintro t156 S156 ⟨A156, c156, e156, rfl⟩
   refine nl ?_
   refine AW.rseq ?_
   refine Y1 (Yv.move rfl eV) ?_
   refine Y1 (Yv.nilChk rfl eV) ?_
   refine Y1 (Yv.fieldBox rfl fo_49_0 eV) ?_
   refine Y1 (Yv.loadBox rfl ag_24 (i := 1) rfl (E rfl rfl) rfl) ?_
   refine Y1 (Yv.assign rfl eV) ?_
   refine Y1 (Yv.assign rfl eV) ?_
   refine nl ?_
   refine AW.drop (List.take_sublist 1 _) ?_
   refine AW.ret (retI (.tmp rfl (.tmp rfl .nil)) ?_)
   rw [if_pos hval]
   refine enc_end ?_
   rw [enc6 (by rw [h58t]; rfl)]
   skip
   try simp only [List.append_assoc]
   rfl
  try replace h58f := of_decide_eq_false h58f
  refine AW.rseq ?_
  refine Y1 (Yv.eql rfl eV eV) ?_
  refine Y1 (Yv.assign rfl eV) ?_
  refine nl ?_
  refine AW.cond rfl (fun h59t => ?_) (fun h59f => ?_)
  ·
   try replace h59t := of_decide_eq_true h59t
   refine AW.regionH (HeldBox b1 (insVals i)) rfl (tells_box (k := 2) rfl) ?_
   refine AWH.tk (i := 0) rfl rfl rfl (B rfl) (heldAll (freeMove rfl (E rfl rfl))) ?_
   refine AWH.tk (i := 1) rfl rfl rfl (B rfl) (heldAll (freeField rfl fo_23_1 (E rfl rfl))) ?_
   refine AWH.tk (i := 2) rfl rfl rfl (B rfl) (heldLoad rfl ag_3 (E rfl rfl) rfl) ?_
   refine AWH.tk (i := 4) rfl rfl rfl (B rfl) (heldAll (freeField rfl fo_23_1 (E rfl rfl))) ?_
   refine AWH.tk (i := 5) rfl rfl rfl (B rfl) (heldLoad rfl ag_3 (E rfl rfl) rfl) ?_
   refine AWH.two (i := 3) (j := 6) (by kernel_rfl) rfl rfl ?_ ?_
   ·
    refine C1 rfl ce_27 (E rfl rfl) (evsC (E rfl rfl) (evsC (E rfl rfl) (evsC (E rfl rfl) (evsC (E rfl rfl) evs0)))) (S1 := CB _ _ _ _) (S2 := [_]) rfl (rex34 _ _ _ _ _ _ _) ?_
    rintro t162 S162 ⟨rfl, A162, c162, rfl⟩
    refine tb 2 rfl ?_
    refine AWH.one (i := 6) (by kernel_rfl) rfl ?_
    refine Y1 (Yv.andN_i64 3 8 (by decide) (by decide) (by decide) rfl (E rfl rfl) (E rfl rfl) (fun hg => ⟨by omega, by omega⟩)) ?_
    refine tb 2 rfl ?_
    refine AWH.one (i := 7) (by kernel_rfl) rfl ?_
    refine Y1 (Yv.bits rfl rfl (E rfl rfl) (E rfl rfl)) ?_
    refine tb 2 rfl ?_
    refine AWH.one (i := 8) (by kernel_rfl) rfl ?_
    refine AWL.buildSlice1 rfl rfl (B rfl) rfl el_43 rfl (evsC (E rfl rfl) evs0) (Nat.le_of_ble_eq_true rfl) rfl rfl ?_
    refine tb 2 rfl ?_
    refine AWH.one (i := 9) (by kernel_rfl) rfl ?_
    refine C1 rfl ce_28 (E rfl rfl) (evsC (E rfl rfl) (evsC (E rfl rfl) evs0)) (S1 := CB _ _ _ _) (S2 := [_]) rfl (put35 _ _ _ _ [_]) ?_
    rintro t168 S168 ⟨rfl, A168, c168, rfl⟩
    refine tb 2 rfl ?_
    refine AWH.done (by kernel_rfl) ?_
    refine AW.rseq ?_
    refine Y1 (Yv.move rfl eV) ?_
    refine Y1 (Yv.nilChk rfl eV) ?_
    refine Y1 (Yv.fieldBox rfl fo_49_0 eV) ?_
    refine Y1 (Yv.loadBox rfl ag_24 (i := 1) rfl (E rfl rfl) rfl) ?_
    refine Y1 (Yv.assign rfl eV) ?_
    refine Y1 (Yv.assign rfl eV) ?_
    refine nl ?_
    refine AW.drop (List.take_sublist 1 _) ?_
    refine AW.ret (retI (.tmp rfl (.tmp rfl .nil)) ?_)
    rw [if_pos hval]
    refine enc_end ?_
    rw [enc9 (by rw [h59t]; rfl)]
    rw [← r1]
    try simp only [List.append_assoc]
    rfl
   ·
    refine Y1 (Yv.andN_i64 3 8 (by decide) (by decide) (by decide) rfl (E rfl rfl) (E rfl rfl) (fun hg => ⟨by omega, by omega⟩)) ?_
    refine tb 2 rfl ?_
    refine AWH.two (i := 3) (j := 7) (by kernel_rfl) rfl rfl ?_ ?_
    ·
     refine C1 rfl ce_27 (E rfl rfl) (evsC (E rfl rfl) (evsC (E rfl rfl) (evsC (E rfl rfl) (evsC (E rfl rfl) evs0)))) (S1 := CB _ _ _ _) (S2 := [_]) rfl (rex34 _ _ _ _ _ _ _) ?_
     rintro t162 S162 ⟨rfl, A162, c162, rfl⟩
     refine tb 2 rfl ?_
     refine AWH.one (i := 7) (by kernel_rfl) rfl ?_
     refine Y1 (Yv.bits rfl rfl (E rfl rfl) (E rfl rfl)) ?_
     refine tb 2 rfl ?_
     refine AWH.one (i := 8) (by kernel_rfl) rfl ?_
     refine AWL.buildSlice1 rfl rfl (B rfl) rfl el_43 rfl (evsC (E rfl rfl) evs0) (Nat.le_of_ble_eq_true rfl) rfl rfl ?_
     refine tb 2 rfl ?_
     refine AWH.one (i := 9) (by kernel_rfl) rfl ?_
     refine C1 rfl ce_28 (E rfl rfl) (evsC (E rfl rfl) (evsC (E rfl rfl) evs0)) (S1 := CB _ _ _ _) (S2 := [_]) rfl (put35 _ _ _ _ [_]) ?_
     rintro t168 S168 ⟨rfl, A168, c168, rfl⟩
     refine tb 2 rfl ?_
     refine AWH.done (by kernel_rfl) ?_
     refine AW.rseq ?_
     refine Y1 (Yv.move rfl eV) ?_
     refine Y1 (Yv.nilChk rfl eV) ?_
     refine Y1 (Yv.fieldBox rfl fo_49_0 eV) ?_
     refine Y1 (Yv.loadBox rfl ag_24 (i := 1) rfl (E rfl rfl) rfl) ?_
     refine Y1 (Yv.assign rfl eV) ?_
     refine Y1 (Yv.assign rfl eV) ?_
     refine nl ?_
     refine AW.drop (List.take_sublist 1 _) ?_
     refine AW.ret (retI (.tmp rfl (.tmp rfl .nil)) ?_)
     rw [if_pos hval]
     refine enc_end ?_
     rw [enc9 (by rw [h59t]; rfl)]
     rw [← r1]
     try simp only [List.append_assoc]
     rfl
    ·
     refine Y1 (Yv.bits rfl rfl (E rfl rfl) (E rfl rfl)) ?_
     refine tb 2 rfl ?_
     refine AWH.two (i := 3) (j := 8) (by kernel_rfl) rfl rfl ?_ ?_
     ·
      refine C1 rfl ce_27 (E rfl rfl) (evsC (E rfl rfl) (evsC (E rfl rfl) (evsC (E rfl rfl) (evsC (E rfl rfl) evs0)))) (S1 := CB _ _ _ _) (S2 := [_]) rfl (rex34 _ _ _ _ _ _ _) ?_
      rintro t162 S162 ⟨rfl, A162, c162, rfl⟩
      refine tb 2 rfl ?_
      refine AWH.one (i := 8) (by kernel_rfl) rfl ?_
      refine AWL.buildSlice1 rfl rfl (B rfl) rfl el_43 rfl (evsC (E rfl rfl) evs0) (Nat.le_of_ble_eq_true rfl) rfl rfl ?_
      refine tb 2 rfl ?_
      refine AWH.one (i := 9) (by kernel_rfl) rfl ?_
      refine C1 rfl ce_28 (E rfl rfl) (evsC (E rfl rfl) (evsC (E rfl rfl) evs0)) (S1 := CB _ _ _ _) (S2 := [_]) rfl (put35 _ _ _ _ [_]) ?_
      rintro t168 S168 ⟨rfl, A168, c168, rfl⟩
      refine tb 2 rfl ?_
      refine AWH.done (by kernel_rfl) ?_
      refine AW.rseq ?_
      refine Y1 (Yv.move rfl eV) ?_
      refine Y1 (Yv.nilChk rfl eV) ?_
      refine Y1 (Yv.fieldBox rfl fo_49_0 eV) ?_
      refine Y1 (Yv.loadBox rfl ag_24 (i := 1) rfl (E rfl rfl) rfl) ?_
      refine Y1 (Yv.assign rfl eV) ?_
      refine Y1 (Yv.assign rfl eV) ?_
      refine nl ?_
      refine AW.drop (List.take_sublist 1 _) ?_
      refine AW.ret (retI (.tmp rfl (.tmp rfl .nil)) ?_)
      rw [if_pos hval]
      refine enc_end ?_
      rw [enc9 (by rw [h59t]; rfl)]
      rw [← r1]
      try simp only [List.append_assoc]
      rfl
     ·
      refine AWL.buildSlice1 rfl rfl (B rfl) rfl el_43 rfl (evsC (E rfl rfl) evs0) (Nat.le_of_ble_eq_true rfl) rfl rfl ?_
      refine tb 2 rfl ?_
      refine AWH.one (i := 3) (by kernel_rfl) rfl ?_
      refine C1 rfl ce_27 (E rfl rfl) (evsC (E rfl rfl) (evsC (E rfl rfl) (evsC (E rfl rfl) (evsC (E rfl rfl) evs0)))) (S1 := CB _ _ _ _) (S2 := [_]) rfl (rex34 _ _ _ _ _ _ _) ?_
      rintro t162 S162 ⟨rfl, A162, c162, rfl⟩
      refine tb 2 rfl ?_
      refine AWH.one (i := 9) (by kernel_rfl) rfl ?_
      refine C1 rfl ce_28 (E rfl rfl) (evsC (E rfl rfl) (evsC (E rfl rfl) evs0)) (S1 := CB _ _ _ _) (S2 := [_]) rfl (put35 _ _ _ _ [_]) ?_
      rintro t168 S168 ⟨rfl, A168, c168, rfl⟩
      refine tb 2 rfl ?_
      refine AWH.done (by kernel_rfl) ?_
      refine AW.rseq ?_
      refine Y1 (Yv.move rfl eV) ?_
      refine Y1 (Yv.nilChk rfl eV) ?_
      refine Y1 (Yv.fieldBox rfl fo_49_0 eV) ?_
      refine Y1 (Yv.loadBox rfl ag_24 (i := 1) rfl (E rfl rfl) rfl) ?_
      refine Y1 (Yv.assign rfl eV) ?_
      refine Y1 (Yv.assign rfl eV) ?_
      refine nl ?_
      refine AW.drop (List.take_sublist 1 _) ?_
      refine AW.ret (retI (.tmp rfl (.tmp rfl .nil)) ?_)
      rw [if_pos hval]
      refine enc_end ?_
      rw [enc9 (by rw [h59t]; rfl)]
      rw [← r1]
      try simp only [List.append_assoc]
      rfl
  try replace h59f := of_decide_eq_false h59f
  refine AW.rseq ?_
  refine Y1 (Yv.eql rfl eV eV) ?_
  refine Y1 (Yv.assign rfl eV) ?_
  refine nl ?_
  refine AW.cond rfl (fun h60t => ?_) (fun h60f => ?_)
  ·
   try replace h60t := of_decide_eq_true h60t
   refine AW.regionH (HeldBox b1 (insVals i)) rfl (tells_box (k := 2) rfl) ?_
   refine AWH.tk (i := 0) rfl rfl rfl (B rfl) (heldAll (freeMove rfl (E rfl rfl))) ?_
   refine AWH.tk (i := 1) rfl rfl rfl (B rfl) (heldAll (freeField rfl fo_23_1 (E rfl rfl))) ?_
   refine AWH.tk (i := 2) rfl rfl rfl (B rfl) (heldLoad rfl ag_3 (E rfl rfl) rfl) ?_
   refine AWH.tk (i := 4) rfl rfl rfl (B rfl) (heldAll (freeField rfl fo_23_1 (E rfl rfl))) ?_
   refine AWH.tk (i := 5) rfl rfl rfl (B rfl) (heldLoad rfl ag_3 (E rfl rfl) rfl) ?_
   refine AWH.two (i := 3) (j := 6) (by kernel_rfl) rfl rfl ?_ ?_
   ·
    refine C1 rfl ce_27 (E rfl rfl) (evsC (E rfl rfl) (evsC (E rfl rfl) (evsC (E rfl rfl) (evsC (E rfl rfl) evs0)))) (S1 := CB _ _ _ _) (S2 := [_]) rfl (rex34 _ _ _ _ _ _ _) ?_
    rintro t174 S174 ⟨rfl, A174, c174, rfl⟩
    refine tb 2 rfl ?_
    refine AWH.one (i := 6) (by kernel_rfl) rfl ?_
    refine Y1 (Yv.andN_i64 3 8 (by decide) (by decide) (by decide) rfl (E rfl rfl) (E rfl rfl) (fun hg => ⟨by omega, by omega⟩)) ?_
    refine tb 2 rfl ?_
    refine AWH.one (i := 7) (by kernel_rfl) rfl ?_
    refine Y1 (Yv.bits rfl rfl (E rfl rfl) (E rfl rfl)) ?_
    refine tb 2 rfl ?_
    refine AWH.one (i := 8) (by kernel_rfl) rfl ?_
    refine AWL.buildSlice1 rfl rfl (B rfl) rfl el_43 rfl (evsC (E rfl rfl) evs0) (Nat.le_of_ble_eq_true rfl) rfl rfl ?_
    refine tb 2 rfl ?_
    refine AWH.one (i := 9) (by kernel_rfl) rfl ?_
    refine C1 rfl ce_28 (E rfl rfl) (evsC (E rfl rfl) (evsC (E rfl rfl) evs0)) (S1 := CB _ _ _ _) (S2 := [_]) rfl (put35 _ _ _ _ [_]) ?_
    rintro t180 S180 ⟨rfl, A180, c180, rfl⟩
    refine tb 2 rfl ?_
    refine AWH.done (by kernel_rfl) ?_
    refine AW.rseq ?_
    refine Y1 (Yv.move rfl eV) ?_
    refine Y1 (Yv.nilChk rfl eV) ?_
    refine Y1 (Yv.fieldBox rfl fo_49_0 eV) ?_
    refine Y1 (Yv.loadBox rfl ag_24 (i := 1) rfl (E rfl rfl) rfl) ?_
    refine Y1 (Yv.assign rfl eV) ?_
    refine Y1 (Yv.assign rfl eV) ?_
    refine nl ?_
    refine AW.drop (List.take_sublist 1 _) ?_
    refine AW.ret (retI (.tmp rfl (.tmp rfl .nil)) ?_)
    rw [if_pos hval]
    refine enc_end ?_
    rw [enc10 (by rw [h60t]; rfl)]
    rw [← r2]
    try simp only [List.append_assoc]
    rfl
   ·
    refine Y1 (Yv.andN_i64 3 8 (by decide) (by decide) (by decide) rfl (E rfl rfl) (E rfl rfl) (fun hg => ⟨by omega, by omega⟩)) ?_
    refine tb 2 rfl ?_
    refine AWH.two (i := 3) (j := 7) (by kernel_rfl) rfl rfl ?_ ?_
    ·
     refine C1 rfl ce_27 (E rfl rfl) (evsC (E rfl rfl) (evsC (E rfl rfl) (evsC (E rfl rfl) (evsC (E rfl rfl) evs0)))) (S1 := CB _ _ _ _) (S2 := [_]) rfl (rex34 _ _ _ _ _ _ _) ?_
     rintro t174 S174 ⟨rfl, A174, c174, rfl⟩
     refine tb 2 rfl ?_
     refine AWH.one (i := 7) (by kernel_rfl) rfl ?_
     refine Y1 (Yv.bits rfl rfl (E rfl rfl) (E rfl rfl)) ?_
     refine tb 2 rfl ?_
     refine AWH.one (i := 8) (by kernel_rfl) rfl ?_
     refine AWL.buildSlice1 rfl rfl (B rfl) rfl el_43 rfl (evsC (E rfl rfl) evs0) (Nat.le_of_ble_eq_true rfl) rfl rfl ?_
     refine tb 2 rfl ?_
     refine AWH.one (i := 9) (by kernel_rfl) rfl ?_
     refine C1 rfl ce_28 (E rfl rfl) (evsC (E rfl rfl) (evsC (E rfl rfl) evs0)) (S1 := CB _ _ _ _) (S2 := [_]) rfl (put35 _ _ _ _ [_]) ?_
     rintro t180 S180 ⟨rfl, A180, c180, rfl⟩
     refine tb 2 rfl ?_
     refine AWH.done (by kernel_rfl) ?_
     refine AW.rseq ?_
     refine Y1 (Yv.move rfl eV) ?_
     refine Y1 (Yv.nilChk rfl eV) ?_
     refine Y1 (Yv.fieldBox rfl fo_49_0 eV) ?_
     refine Y1 (Yv.loadBox rfl ag_24 (i := 1) rfl (E rfl rfl) rfl) ?_
     refine Y1 (Yv.assign rfl eV) ?_
     refine Y1 (Yv.assign rfl eV) ?_
     refine nl ?_
     refine AW.drop (List.take_sublist 1 _) ?_
     refine AW.ret (retI (.tmp rfl (.tmp rfl .nil)) ?_)
     rw [if_pos hval]
     refine enc_end ?_
     rw [enc10 (by rw [h60t]; rfl)]
     rw [← r2]
     try simp only [List.append_assoc]
     rfl
    ·
     refine Y1 (Yv.bits rfl rfl (E rfl rfl) (E rfl rfl)) ?_
     refine tb 2 rfl ?_
     refine AWH.two (i := 3) (j := 8) (by kernel_rfl) rfl rfl ?_ ?_
     ·
      refine C1 rfl ce_27 (E rfl rfl) (evsC (E rfl rfl) (evsC (E rfl rfl) (evsC (E rfl rfl) (evsC (E rfl rfl) evs0)))) (S1 := CB _ _ _ _) (S2 := [_]) rfl (rex34 _ _ _ _ _ _ _) ?_
      rintro t174 S174 ⟨rfl, A174, c174, rfl⟩
      refine tb 2 rfl ?_
      refine AWH.one (i := 8) (by kernel_rfl) rfl ?_
      refine AWL.buildSlice1 rfl rfl (B rfl) rfl el_43 rfl (evsC (E rfl rfl) evs0) (Nat.le_of_ble_eq_true rfl) rfl rfl ?_
      refine tb 2 rfl ?_
      refine AWH.one (i := 9) (by kernel_rfl) rfl ?_
      refine C1 rfl ce_28 (E rfl rfl) (evsC (E rfl rfl) (evsC (E rfl rfl) evs0)) (S1 := CB _ _ _ _) (S2 := [_]) rfl (put35 _ _ _ _ [_]) ?_
      rintro t180 S180 ⟨rfl, A180, c180, rfl⟩
      refine tb 2 rfl ?_
      refine AWH.done (by kernel_rfl) ?_
      refine AW.rseq ?_
      refine Y1 (Yv.move rfl eV) ?_
      refine Y1 (Yv.nilChk rfl eV) ?_
      refine Y1 (Yv.fieldBox rfl fo_49_0 eV) ?_
      refine Y1 (Yv.loadBox rfl ag_24 (i := 1) rfl (E rfl rfl) rfl) ?_
      refine Y1 (Yv.assign rfl eV) ?_
      refine Y1 (Yv.assign rfl eV) ?_
      refine nl ?_
      refine AW.drop (List.take_sublist 1 _) ?_
      refine AW.ret (retI (.tmp rfl (.tmp rfl .nil)) ?_)
      rw [if_pos hval]
      refine enc_end ?_
      rw [enc10 (by rw [h60t]; rfl)]
      rw [← r2]
      try simp only [List.append_assoc]
      rfl
     ·
      refine AWL.buildSlice1 rfl rfl (B rfl) rfl el_43 rfl (evsC (E rfl rfl) evs0) (Nat.le_of_ble_eq_true rfl) rfl rfl ?_
      refine tb 2 rfl ?_
      refine AWH.one (i := 3) (by kernel_rfl) rfl ?_
      refine C1 rfl ce_27 (E rfl rfl) (evsC (E rfl rfl) (evsC (E rfl rfl) (evsC (E rfl rfl) (evsC (E rfl rfl) evs0)))) (S1 := CB _ _ _ _) (S2 := [_]) rfl (rex34 _ _ _ _ _ _ _) ?_
      rintro t174 S174 ⟨rfl, A174, c174, rfl⟩
      refine tb 2 rfl ?_
      refine AWH.one (i := 9) (by kernel_rfl) rfl ?_
      refine C1 rfl ce_28 (E rfl rfl) (evsC (E rfl rfl) (evsC (E rfl rfl) evs0)) (S1 := CB _ _ _ _) (S2 := [_]) rfl (put35 _ _ _ _ [_]) ?_
      rintro t180 S180 ⟨rfl, A180, c180, rfl⟩
      refine tb 2 rfl ?_
      refine AWH.done (by kernel_rfl) ?_
      refine AW.rseq ?_
      refine Y1 (Yv.move rfl eV) ?_
      refine Y1 (Yv.nilChk rfl eV) ?_
      refine Y1 (Yv.fieldBox rfl fo_49_0 eV) ?_
      refine Y1 (Yv.loadBox rfl ag_24 (i := 1) rfl (E rfl rfl) rfl) ?_
      refine Y1 (Yv.assign rfl eV) ?_
      refine Y1 (Yv.assign rfl eV) ?_
      refine nl ?_
      refine AW.drop (List.take_sublist 1 _) ?_
      refine AW.ret (retI (.tmp rfl (.tmp rfl .nil)) ?_)
      rw [if_pos hval]
      refine enc_end ?_
      rw [enc10 (by rw [h60t]; rfl)]
      rw [← r2]
      try simp only [List.append_assoc]
      rfl
  try replace h60f := of_decide_eq_false h60f
  refine AW.rseq ?_
  refine Y1 (Yv.eql rfl eV eV) ?_
  refine Y1 (Yv.assign rfl eV) ?_
  refine nl ?_
  refine AW.cond rfl (fun h61t => ?_) (fun h61f => ?_)
  ·
   try replace h61t := of_decide_eq_true h61t
   refine AW.region ?_
   refine Y1 (Yv.move rfl eV) ?_
   refine AWL.buildSlice1 rfl rfl (B rfl) rfl el_43 rfl (evsC (E rfl rfl) evs0) (Nat.le_of_ble_eq_true rfl) rfl rfl ?_
   refine C1 rfl ce_28 (E rfl rfl) (evsC (E rfl rfl) (evsC (E rfl rfl) evs0)) (S1 := CB _ _ _ _) (S2 := [_]) rfl (put35 _ _ _ _ [_]) ?_
   rintro t185 S185 ⟨rfl, A185, c185, rfl⟩
   refine nl ?_
   refine AW.rseq ?_
   refine Y1 (Yv.move rfl eV) ?_
   refine Y1 (Yv.nilChk rfl eV) ?_
   refine Y1 (Yv.fieldBox rfl fo_49_0 eV) ?_
   refine Y1 (Yv.loadBox rfl ag_24 (i := 1) rfl (E rfl rfl) rfl) ?_
   refine Y1 (Yv.assign rfl eV) ?_
   refine Y1 (Yv.assign rfl eV) ?_
   refine nl ?_
   refine AW.drop (List.take_sublist 1 _) ?_
   refine AW.ret (retI (.tmp rfl (.tmp rfl .nil)) ?_)
   rw [if_pos hval]
   refine enc_end ?_
   rw [enc11 (by rw [h61t]; rfl)]
   skip
   try simp only [List.append_assoc]
   rfl
  try replace h61f := of_decide_eq_false h61f
  refine AW.rseq ?_
  refine Y1 (Yv.eql rfl eV eV) ?_
  refine Y1 (Yv.assign rfl eV) ?_
  refine nl ?_
  refine AW.cond rfl (fun h62t => ?_) (fun h62f => ?_)
  ·
   try replace h62t := of_decide_eq_true h62t
   refine AW.region ?_
   refine Y1 (Yv.move rfl eV) ?_
   refine AWL.buildSlice1 rfl rfl (B rfl) rfl el_43 rfl (evsC (E rfl rfl) (evsC (E rfl rfl) evs0)) (Nat.le_of_ble_eq_true rfl) rfl rfl ?_
   refine C1 rfl ce_28 (E rfl rfl) (evsC (E rfl rfl) (evsC (E rfl rfl) evs0)) (S1 := CB _ _ _ _) (S2 := [_]) rfl (put35 _ _ _ _ [_, _]) ?_
   rintro t190 S190 ⟨rfl, A190, c190, rfl⟩
   refine nl ?_
   refine AW.rseq ?_
   refine Y1 (Yv.move rfl eV) ?_
   refine Y1 (Yv.nilChk rfl eV) ?_
   refine Y1 (Yv.fieldBox rfl fo_49_0 eV) ?_
   refine Y1 (Yv.loadBox rfl ag_24 (i := 1) rfl (E rfl rfl) rfl) ?_
   refine Y1 (Yv.assign rfl eV) ?_
   refine Y1 (Yv.assign rfl eV) ?_
   refine nl ?_
   refine AW.drop (List.take_sublist 1 _) ?_
   refine AW.ret (retI (.tmp rfl (.tmp rfl .nil)) ?_)
   rw [if_pos hval]
   refine enc_end ?_
   rw [enc12 (by rw [h62t]; rfl)]
   skip
   try simp only [List.append_assoc]
   rfl
  try replace h62f := of_decide_eq_false h62f
  refine AW.rseq ?_
  refine Y1 (Yv.eql rfl eV eV) ?_
  refine Y1 (Yv.assign rfl eV) ?_
  refine nl ?_
  refine AW.cond rfl (fun h63t => ?_) (fun h63f => ?_)
  ·
   try replace h63t := of_decide_eq_true h63t
   refine AW.region ?_
   refine Y1 (Yv.move rfl eV) ?_
   refine AWL.buildSlice1 rfl rfl (B rfl) rfl el_43 rfl (evsC (E rfl rfl) (evsC (E rfl rfl) evs0)) (Nat.le_of_ble_eq_true rfl) rfl rfl ?_
   refine C1 rfl ce_28 (E rfl rfl) (evsC (E rfl rfl) (evsC (E rfl rfl) evs0)) (S1 := CB _ _ _ _) (S2 := [_]) rfl (put35 _ _ _ _ [_, _]) ?_
   rintro t195 S195 ⟨rfl, A195, c195, rfl⟩
   refine nl ?_
   refine AW.rseq ?_
   refine Y1 (Yv.move rfl eV) ?_
   refine Y1 (Yv.nilChk rfl eV) ?_
   refine Y1 (Yv.fieldBox rfl fo_49_0 eV) ?_
   refine Y1 (Yv.loadBox rfl ag_24 (i := 1) rfl (E rfl rfl) rfl) ?_
   refine Y1 (Yv.assign rfl eV) ?_
   refine Y1 (Yv.assign rfl eV) ?_
   refine nl ?_
   refine AW.drop (List.take_sublist 1 _) ?_
   refine AW.ret (retI (.tmp rfl (.tmp rfl .nil)) ?_)
   rw [if_pos hval]
   refine enc_end ?_
   rw [enc13 (by rw [h63t]; rfl)]
   skip
   try simp only [List.append_assoc]
   rfl
  try replace h63f := of_decide_eq_false h63f
  refine AW.seq ?_
  refine AW.rseq ?_
  refine Y1 (Yv.eql rfl eV eV) ?_
  refine Y1 (Yv.assign rfl eV) ?_
  refine nl ?_
  refine AW.cond rfl (fun h64t => ?_) (fun h64f => ?_)
  ·
   try replace h64t := of_decide_eq_true h64t
   refine AW.skip ?_
   refine AW.cond rfl (fun h65t => ?_) (fun h65f => ?_)
   ·
    try replace h65t := of_decide_eq_true h65t
    refine AW.region ?_
    refine Y1 (Yv.move rfl eV) ?_
    refine Y1 (Yv.loadBoxA rfl ag_23 (i := 2) rfl (E rfl rfl) rfl rfl) ?_
    refine C1 rfl ce_33 (E rfl rfl) (evsC (E rfl rfl) (evsC (E rfl rfl) evs0)) (S1 := CB _ _ _ _) (S2 := [_]) rfl (jump40 b11 _ _ _ i hd hs hc (by simp)) ?_
    rintro t202 S202 ⟨A202, c202, e202, rfl⟩
    refine nl ?_
    refine AW.rseq ?_
    refine Y1 (Yv.move rfl eV) ?_
    refine Y1 (Yv.nilChk rfl eV) ?_
    refine Y1 (Yv.fieldBox rfl fo_49_0 eV) ?_
    refine Y1 (Yv.loadBox rfl ag_24 (i := 1) rfl (E rfl rfl) rfl) ?_
    refine Y1 (Yv.assign rfl eV) ?_
    refine Y1 (Yv.assign rfl eV) ?_
    refine nl ?_
    refine AW.drop (List.take_sublist 1 _) ?_
    refine AW.ret (retI (.tmp rfl (.tmp rfl .nil)) ?_)
    rw [if_pos hval]
    refine enc_end ?_
    rw [enc7 (by rw [h64t]; rfl)]
    skip
    try simp only [List.append_assoc]
    rfl
   · exfalso; replace h65f := of_decide_eq_false h65f; omega
  try replace h64f := of_decide_eq_false h64f
  refine AW.rseq ?_
  refine Y1 (Yv.eql rfl eV eV) ?_
  refine Y1 (Yv.assign rfl eV) ?_
  refine nl ?_
  refine AW.cond rfl (fun h66t => ?_) (fun h66f => ?_)
  ·
   try replace h66t := of_decide_eq_true h66t
   refine AW.skip ?_
   refine AW.cond rfl (fun h67t => ?_) (fun h67f => ?_)
   ·
    try replace h67t := of_decide_eq_true h67t
    refine AW.region ?_
    refine Y1 (Yv.move rfl eV) ?_
    refine Y1 (Yv.loadBoxA rfl ag_23 (i := 2) rfl (E rfl rfl) rfl rfl) ?_
    refine C1 rfl ce_33 (E rfl rfl) (evsC (E rfl rfl) (evsC (E rfl rfl) evs0)) (S1 := CB _ _ _ _) (S2 := [_]) rfl (jump40 b11 _ _ _ i hd hs hc (by simp)) ?_
    rintro t202 S202 ⟨A202, c202, e202, rfl⟩
    refine nl ?_
    refine AW.rseq ?_
    refine Y1 (Yv.move rfl eV) ?_
    refine Y1 (Yv.nilChk rfl eV) ?_
    refine Y1 (Yv.fieldBox rfl fo_49_0 eV) ?_
    refine Y1 (Yv.loadBox rfl ag_24 (i := 1) rfl (E rfl rfl) rfl) ?_
    refine Y1 (Yv.assign rfl eV) ?_
    refine Y1 (Yv.assign rfl eV) ?_
    refine nl ?_
    refine AW.drop (List.take_sublist 1 _) ?_
    refine AW.ret (retI (.tmp rfl (.tmp rfl .nil)) ?_)
    rw [if_pos hval]
    refine enc_end ?_
    rw [enc7 (by rw [h66t]; rfl)]
    skip
    try simp only [List.append_assoc]
    rfl
   · exfalso; replace h67f := of_decide_eq_false h67f; omega
  try replace h66f := of_decide_eq_false h66f
  refine AW.region ?_
  refine Y1 (Yv.eql rfl eV eV) ?_
  refine Y1 (Yv.assign rfl eV) ?_
  refine nl ?_
  refine AW.cond rfl (fun h68t => ?_) (fun h68f => ?_)
  ·
   try replace h68t := of_decide_eq_true h68t
   refine AW.region ?_
   refine Y1 (Yv.move rfl eV) ?_
   refine Y1 (Yv.loadBoxA rfl ag_23 (i := 2) rfl (E rfl rfl) rfl rfl) ?_
   refine C1 rfl ce_33 (E rfl rfl) (evsC (E rfl rfl) (evsC (E rfl rfl) evs0)) (S1 := CB _ _ _ _) (S2 := [_]) rfl (jump40 b11 _ _ _ i hd hs hc (by simp)) ?_
   rintro t202 S202 ⟨A202, c202, e202, rfl⟩
   refine nl ?_
   refine AW.rseq ?_
   refine Y1 (Yv.move rfl eV) ?_
   refine Y1 (Yv.nilChk rfl eV) ?_
   refine Y1 (Yv.fieldBox rfl fo_49_0 eV) ?_
   refine Y1 (Yv.loadBox rfl ag_24 (i := 1) rfl (E rfl rfl) rfl) ?_
   refine Y1 (Yv.assign rfl eV) ?_
   refine Y1 (Yv.assign rfl eV) ?_
   refine nl ?_
   refine AW.drop (List.take_sublist 1 _) ?_
   refine AW.ret (retI (.tmp rfl (.tmp rfl .nil)) ?_)
   rw [if_pos hval]
   refine enc_end ?_
   rw [enc7 (by rw [h68t]; rfl)]
   skip
   try simp only [List.append_assoc]
   rfl
  try replace h68f := of_decide_eq_false h68f
  refine AW.region ?_
  refine Y1 (Yv.move rfl eV) ?_
  refine Y1 (Yv.loadBoxA rfl ag_23 (i := 2) rfl (E rfl rfl) rfl rfl) ?_
  refine C1 rfl ce_34 (E rfl rfl) (evsC (E rfl rfl) (evsC (E rfl rfl) evs0)) (S1 := CB _ _ _ _) (S2 := [_]) rfl (far41 b11 _ _ _ i hd hs hc (by simp) (by omega)) ?_
  rintro t22 S22 ⟨A22, c22, e22, rfl⟩
  refine nl ?_
  refine AW.rseq ?_
  refine Y1 (Yv.move rfl eV) ?_
  refine Y1 (Yv.nilChk rfl eV) ?_
  refine Y1 (Yv.fieldBox rfl fo_49_0 eV) ?_
  refine Y1 (Yv.loadBox rfl ag_24 (i := 1) rfl (E rfl rfl) rfl) ?_
  refine Y1 (Yv.assign rfl eV) ?_
  refine Y1 (Yv.assign rfl eV) ?_
  refine nl ?_
  refine AW.drop (List.take_sublist 1 _) ?_
  refine AW.ret (retI (.tmp rfl (.tmp rfl .nil)) ?_)
  rw [if_pos hval]
  refine enc_end ?_
  rw [cls_far (by omega)]
  skip
  try simp only [List.append_assoc]
  rfl

theorem encode19 (i : Ins) : ACalls Tryd.prog 11 [insT i] [] (fun t_ S => t_ = if validF i = true then .tup [u8s (encF i), .v (.int .i64 0)] else .tup [ofConst (.slice none 0 0), .v (.int .i64 200)]) := by
  intro X w args h1 h2 h3 h4 h5
  refine (encode19R i X w args h1 h2 h3 h4 h5).mono ?_
  rintro e w' ⟨v, t, S', rfl, hk, hnd, hfr, hent, hv, hR⟩
  by_cases hval : validF i = true
  · rw [if_pos hval] at hR
    obtain ⟨A, r, rfl, rfl⟩ := hR
    refine ⟨v, .tup [u8s (encF i), .v (.int .i64 0)], [], rfl, hk, by simp [M], fun b hb => (by simp [M] at hb), fun e he => (by cases he), ?_, by rw [if_pos hval]⟩
    have hL : ∀ g, A.map (·.block) = some g → g ∉ X ++ M [] := fun g hg hm => by
      have hm1 : g ∈ M [Ent.row A ((encF i).length + r.length) ((encF i).length + r.length) 5 1 ((encF i ++ r).map u8)] := mem_M.2 ⟨_, List.mem_singleton.2 rfl, hg⟩
      rcases hfr g hm1 with h | h
      · simp [M] at h
      · rcases List.mem_append.1 hm with hx | hx
        · have := (h1 g hx).1
          omega
        · simp [M] at hx
    have hT := full_tree (L' := X ++ M []) (hent _ (List.mem_singleton.2 rfl)) hL
    cases hv with
    | @tup _ ys hl h =>
      match ys, hl, h with
      | [p, q], _, h =>
        have e1 := (h 0 _ p rfl rfl).v_inv
        have e2 := (h 1 _ q rfl rfl).v_inv
        subst e1; subst e2
        refine .tup (ys := [_, _]) rfl (fun j t u f1 f2 => ?_)
        rcases j with _ | _ | j
        · simp only [List.getElem?_cons_zero, Option.some.injEq] at f1 f2
          subst f1; subst f2
          exact hT
        · simp only [List.getElem?_cons_succ, List.getElem?_cons_zero, Option.some.injEq] at f1 f2
          subst f1; subst f2
          exact .v _
        · simp at f1
  · rw [if_neg hval] at hR
    subst hR
    refine ⟨v, _, [], rfl, hk, by simp [M], fun b hb => (by simp [M] at hb), fun e he => (by cases he), hv.mono (Nat.le_refl _) (fun _ _ _ => rfl) (fun b _ hm => ?_), by rw [if_neg hval]⟩
    rcases List.mem_append.1 hm with hx | hx
    · exact List.mem_append.2 (.inl hx)
    · simp [M] at hx

end Go.Proofs.YtjndpakhmgapjaaDoor

namespace Go.Proofs.YtjndpakhmgapjaaDoor
open Go Go.RowKit
set_option linter.unusedSimpArgs false
set_option linter.unusedVariables false
structure Line where
  kind : Int
  ins : Ins
  l : Int
  cond : Int
  d : Int
  deriving Inhabited, DecidableEq
def inssT (l : List Ins) : T := .sl 6 (l.flatMap insCells)
structure LineOk (x : Line) : Prop where
  kind : I64 x.kind
  ins : InsOk x.ins
  l : I64 x.l
  cond : I64 x.cond
  d : I64 x.d

theorem len_flat {α : Type} {f : α → List T} {k : Nat} (hk : ∀ a, (f a).length = k) : ∀ (l : List α), (l.flatMap f).length = l.length * k
  | [] => by simp
  | a :: r => by rw [List.flatMap_cons, List.length_append, hk, len_flat hk r, List.length_cons, Nat.add_mul]; omega
theorem drop_flat {α : Type} {f : α → List T} {k : Nat} (hk : ∀ a, (f a).length = k) : ∀ (l : List α) (j : Nat), (l.flatMap f).drop (j * k) = (l.drop j).flatMap f
  | [], j => by simp
  | a :: r, 0 => by simp
  | a :: r, j + 1 => by
    rw [List.flatMap_cons, Nat.add_mul, Nat.one_mul, Nat.add_comm, List.drop_append, List.drop_of_length_le (by rw [hk]; omega), hk, List.nil_append, Nat.add_sub_cancel_left, drop_flat hk r j]
    rfl
theorem getD_eq' {α : Type} [Inhabited α] {l : List α} {j : Nat} (h : j < l.length) : l.getD j default = l[j] := by simp [h]
theorem getD_mem' {α : Type} [Inhabited α] {l : List α} {j : Nat} (h : j < l.length) : l.getD j default ∈ l := by
  rw [getD_eq' h]; exact List.getElem_mem h
theorem flat_get {α : Type} [Inhabited α] {f : α → List T} {k : Nat} (hk : ∀ a, (f a).length = k) {l : List α} {j : Nat} (h : j < l.length) : ((l.flatMap f).drop (j * k)).take k = f (l.getD j default) ∧ (f (l.getD j default)).length = k := by
  refine ⟨?_, hk _⟩
  rw [drop_flat hk, List.drop_eq_getElem_cons h, List.flatMap_cons, getD_eq' h, List.take_left' (hk _)]
theorem ik (i : Ins) : (insCells i).length = 6 := rfl
theorem len_inss {l : List Ins} : (l.flatMap insCells).length = l.length * 6 := len_flat ik l
theorem ins_get {l : List Ins} {j : Nat} (h : j < l.length) : ((l.flatMap insCells).drop (j * 6)).take 6 = insCells (l.getD j default) ∧ (insCells (l.getD j default)).length = 6 := flat_get ik h
theorem take_flat {α β : Type} [Inhabited α] {f : α → List β} {l : List α} {j : Nat} (h : j < l.length) : (l.take (j + 1)).flatMap f = (l.take j).flatMap f ++ f (l.getD j default) := by
  rw [List.take_succ_eq_append_getElem h, List.flatMap_append, getD_eq' h]
  simp
/-! ### sizes -/
def NL : Nat := 1099511627
def pre (sz : List Nat) (k : Nat) : Nat := (sz.take k).sum
theorem memF_len (p q n : Int) : (memF p q n).length ≤ 6 := by
  unfold memF
  split <;> simp [immF, leBytes_length]
theorem iteLe {c : Prop} [Decidable c] {a b : List UInt8} (h1 : a.length ≤ 11) (h2 : b.length ≤ 11) : (if c then a else b).length ≤ 11 := by split <;> assumption
theorem encF_len (i : Ins) : (encF i).length ≤ 11 := by
  have h1 := memF_len i.d i.s i.imm
  have h2 := memF_len i.s i.d i.imm
  have h3 : (memoryF i).length ≤ 11 := by
    unfold memoryF
    repeat' split
    all_goals (simp only [List.length_cons] <;> omega)
  have h4 : (jumpF i).length ≤ 11 := by
    unfold jumpF
    repeat' split
    all_goals simp [immF, leBytes_length]
  have h5 : (farF i).length ≤ 11 := by
    unfold farF
    repeat' (first | apply iteLe | exact Nat.le_of_ble_eq_true rfl)
  unfold encF
  split
  · simp
  · simp [immF, leBytes_length]
  · simp
  · simp [immF, leBytes_length]
  · simp
  · split <;> simp [immF, leBytes_length]
  · exact h3
  · exact h4
  · exact h5
  all_goals simp
end Go.Proofs.YtjndpakhmgapjaaDoor

namespace Go.Proofs.YtjndpakhmgapjaaDoor
open Go Go.RowKit
set_option linter.unusedSimpArgs false
set_option linter.unusedVariables false
set_option linter.unnecessarySimpa false
structure FormF where
  kind : Int
  size : Int
  first : Int
  rex : Bool
  w : Int
  op : List Int
  mod : Int
  digit : Int
  d : Int
  s : Int
  cond : Int
  imm : Int
  deriving Inhabited, DecidableEq
def formCells (f : FormF) : List T := [.v (.int .i64 f.kind), .v (.int .i64 f.size), .v (.int .i64 f.first), .v (.bool f.rex), .v (.int .i64 f.w), .sl 1 (ints f.op), .v (.int .i64 f.mod), .v (.int .i64 f.digit), .v (.int .i64 f.d), .v (.int .i64 f.s), .v (.int .i64 f.cond), .v (.int .i64 f.imm)]
def formT (f : FormF) : T := .agg (formCells f)
def formsF : List FormF := [⟨1, 0, 0, true, 1, [137], 3, 0, 2, 1, 0, 0⟩,
  ⟨2, 0, 0, true, 1, [199], 3, 0, 2, 0, 0, 6⟩,
  ⟨2, 0, 0, true, 1, [184], -1, 0, 3, 0, 0, 7⟩,
  ⟨3, 8, 0, true, 1, [139], 2, 0, 1, 2, 0, 6⟩,
  ⟨3, 4, 0, true, 0, [139], 2, 0, 1, 2, 0, 6⟩,
  ⟨3, 1, 0, true, 1, [15, 182], 2, 0, 1, 2, 0, 6⟩,
  ⟨4, 8, 0, true, 1, [137], 2, 0, 2, 1, 0, 6⟩,
  ⟨4, 4, 0, true, 0, [137], 2, 0, 2, 1, 0, 6⟩,
  ⟨4, 1, 0, true, 0, [136], 2, 0, 2, 1, 0, 6⟩,
  ⟨5, 0, 0, true, 1, [141], 2, 0, 1, 2, 0, 6⟩,
  ⟨6, 0, 0, true, 1, [1], 3, 0, 2, 1, 0, 0⟩,
  ⟨7, 0, 0, true, 1, [9], 3, 0, 2, 1, 0, 0⟩,
  ⟨8, 0, 0, true, 1, [17], 3, 0, 2, 1, 0, 0⟩,
  ⟨9, 0, 0, true, 1, [25], 3, 0, 2, 1, 0, 0⟩,
  ⟨10, 0, 0, true, 1, [33], 3, 0, 2, 1, 0, 0⟩,
  ⟨11, 0, 0, true, 1, [41], 3, 0, 2, 1, 0, 0⟩,
  ⟨12, 0, 0, true, 1, [49], 3, 0, 2, 1, 0, 0⟩,
  ⟨13, 0, 0, true, 1, [57], 3, 0, 2, 1, 0, 0⟩,
  ⟨14, 0, 0, true, 1, [133], 3, 0, 2, 1, 0, 0⟩,
  ⟨15, 0, 0, true, 1, [129], 3, 0, 2, 0, 0, 6⟩,
  ⟨16, 0, 0, true, 1, [129], 3, 1, 2, 0, 0, 6⟩,
  ⟨17, 0, 0, true, 1, [129], 3, 4, 2, 0, 0, 6⟩,
  ⟨18, 0, 0, true, 1, [129], 3, 5, 2, 0, 0, 6⟩,
  ⟨19, 0, 0, true, 1, [129], 3, 6, 2, 0, 0, 6⟩,
  ⟨20, 0, 0, true, 1, [129], 3, 7, 2, 0, 0, 6⟩,
  ⟨21, 0, 0, true, 1, [15, 175], 3, 0, 1, 2, 0, 0⟩,
  ⟨22, 0, 0, true, 1, [247], 3, 4, 2, 0, 0, 0⟩,
  ⟨23, 0, 0, true, 1, [247], 3, 6, 2, 0, 0, 0⟩,
  ⟨24, 0, 0, true, 1, [247], 3, 3, 2, 0, 0, 0⟩,
  ⟨25, 0, 0, true, 1, [247], 3, 2, 2, 0, 0, 0⟩,
  ⟨26, 0, 0, true, 1, [211], 3, 4, 2, 0, 0, 0⟩,
  ⟨27, 0, 0, true, 1, [211], 3, 5, 2, 0, 0, 0⟩,
  ⟨28, 0, 0, true, 1, [211], 3, 7, 2, 0, 0, 0⟩,
  ⟨29, 0, 0, true, 1, [193], 3, 4, 2, 0, 0, 5⟩,
  ⟨30, 0, 0, true, 1, [193], 3, 5, 2, 0, 0, 5⟩,
  ⟨31, 0, 0, true, 1, [193], 3, 7, 2, 0, 0, 5⟩,
  ⟨32, 0, 0, true, 0, [15, 144], 3, 0, 2, 0, 4, 0⟩,
  ⟨33, 0, 0, true, 1, [15, 182], 3, 0, 1, 2, 0, 0⟩,
  ⟨34, 0, 0, true, 1, [15, 64], 3, 0, 1, 2, 4, 0⟩,
  ⟨35, 1, 0, false, 0, [235], -1, 0, 0, 0, 0, 5⟩,
  ⟨35, 4, 0, false, 0, [233], -1, 0, 0, 0, 0, 6⟩,
  ⟨36, 1, 0, false, 0, [112], -1, 0, 0, 0, 4, 5⟩,
  ⟨36, 4, 0, false, 0, [15, 128], -1, 0, 0, 0, 4, 6⟩,
  ⟨37, 0, 0, false, 0, [232], -1, 0, 0, 0, 0, 6⟩,
  ⟨38, 0, 0, true, 0, [255], 3, 2, 2, 0, 0, 0⟩,
  ⟨39, 0, 0, true, 0, [255], 3, 4, 2, 0, 0, 0⟩,
  ⟨40, 0, 0, false, 0, [195], -1, 0, 0, 0, 0, 0⟩,
  ⟨41, 0, 0, true, 0, [80], -1, 0, 3, 0, 0, 0⟩,
  ⟨42, 0, 0, true, 0, [88], -1, 0, 3, 0, 0, 0⟩,
  ⟨43, 0, 0, false, 0, [15, 5], -1, 0, 0, 0, 0, 0⟩,
  ⟨44, 0, 0, false, 0, [15, 11], -1, 0, 0, 0, 0, 0⟩,
  ⟨45, 0, 102, true, 1, [15, 110], 3, 0, 1, 2, 0, 0⟩,
  ⟨46, 0, 102, true, 1, [15, 126], 3, 0, 2, 1, 0, 0⟩,
  ⟨47, 0, 242, true, 0, [15, 88], 3, 0, 1, 2, 0, 0⟩,
  ⟨48, 0, 242, true, 0, [15, 89], 3, 0, 1, 2, 0, 0⟩,
  ⟨49, 0, 242, true, 0, [15, 92], 3, 0, 1, 2, 0, 0⟩,
  ⟨50, 0, 242, true, 0, [15, 94], 3, 0, 1, 2, 0, 0⟩,
  ⟨51, 0, 102, true, 0, [15, 46], 3, 0, 1, 2, 0, 0⟩,
  ⟨52, 0, 242, true, 1, [15, 42], 3, 0, 1, 2, 0, 0⟩]
def fieldR (p n : Int) : Bool := (decide (p = 0) && decide (n = 0)) || ((!decide (p = 0) && decide (0 ≤ n)) && decide (n ≤ 15))
def numberR (f : FormF) (n : Int) : Bool :=
  if f.imm = 0 then decide (n = 0)
  else if f.imm = 5 then (if (decide (f.kind = 35) || decide (f.kind = 36)) = true then inF n (-128) 127 else inF n 0 63)
  else if f.imm = 6 then smallF n else !smallF n
def fitsF (f : FormF) (i : Ins) : Bool := ((((decide (f.kind = i.kind) && decide (f.size = i.size)) && fieldR f.d i.d) && fieldR f.s i.s) && fieldR f.cond i.cond) && numberR f i.imm
def atF (f : FormF) (i : Ins) (p : Int) : Int := if f.d = p then i.d else if f.s = p then i.s else 0
def upF (f : FormF) (i : Ins) : Int := atF f i 1
def baseF (f : FormF) (i : Ins) : Int := atF f i 2 + atF f i 3
def opX (f : FormF) (i : Ins) (k : Nat) : Int := f.op.getD k 0 + (if (decide ((k : Int) = (f.op.length : Int) - 1) && decide (f.cond = 4)) = true then i.cond else 0)
def opY (f : FormF) (i : Ins) (k : Nat) : Int := opX f i k + (if (decide ((k : Int) = (f.op.length : Int) - 1) && decide (f.d = 3)) = true then i.d % 8 else 0)
def r0 (f : FormF) : List UInt8 := if 0 < f.first then [byteOf f.first] else []
def r1 (f : FormF) (i : Ins) : List UInt8 := r0 f ++ (if f.rex = true then [byteOf (64 + 8 * f.w + 4 * (upF f i / 8) + baseF f i / 8)] else [])
def r2 (f : FormF) (i : Ins) (j : Nat) : List UInt8 := r1 f i ++ (List.range j).map (fun k => byteOf (opY f i k))
def regX (f : FormF) (i : Ins) : Int := if (!decide (f.d = 1) && !decide (f.s = 1)) = true then f.digit else upF f i % 8
def modB (f : FormF) (i : Ins) : List UInt8 := byteOf (64 * f.mod + 8 * regX f i + baseF f i % 8) :: (if (decide (f.mod = 2) && decide (baseF f i % 8 = 4)) = true then [36] else [])
def r3 (f : FormF) (i : Ins) : List UInt8 := r2 f i f.op.length ++ (if 0 ≤ f.mod then modB f i else [])
def sizeR (k : Int) : Nat := if k = 5 then 1 else if k = 6 then 4 else if k = 7 then 8 else 0
def r4 (f : FormF) (i : Ins) (j : Nat) : List UInt8 := r3 f i ++ leBytes j (i.imm % 18446744073709551616)
def bytesF (f : FormF) (i : Ins) : List UInt8 := r4 f i (sizeR f.imm)
structure FormOk (f : FormF) : Prop where
  w : 0 ≤ f.w ∧ f.w ≤ 1
  first : 0 ≤ f.first ∧ f.first ≤ 255
  op : ∀ x ∈ f.op, 0 ≤ x ∧ x ≤ 255
  len : f.op.length ≤ 2
  mod : -1 ≤ f.mod ∧ f.mod ≤ 3
  digit : 0 ≤ f.digit ∧ f.digit ≤ 7
theorem forms_ok : ∀ f ∈ formsF, FormOk f := by
  have h : formsF.all (fun f => decide (0 ≤ f.w ∧ f.w ≤ 1) && decide (0 ≤ f.first ∧ f.first ≤ 255) && f.op.all (fun x => decide (0 ≤ x ∧ x ≤ 255)) && decide (f.op.length ≤ 2) && decide (-1 ≤ f.mod ∧ f.mod ≤ 3) && decide (0 ≤ f.digit ∧ f.digit ≤ 7)) = true := by decide
  intro f hf
  have := List.all_eq_true.1 h f hf
  simp only [Bool.and_eq_true, decide_eq_true_eq, List.all_eq_true] at this
  obtain ⟨⟨⟨⟨⟨a, b⟩, c⟩, d⟩, e⟩, g⟩ := this
  exact ⟨a, b, c, d, e, g⟩
theorem field_range {p n : Int} (h : fieldR p n = true) : 0 ≤ n ∧ n ≤ 15 := by
  unfold fieldR at h
  simp only [Bool.or_eq_true, Bool.and_eq_true, Bool.not_eq_true', decide_eq_true_eq, decide_eq_false_iff_not] at h
  omega
theorem fits_range {f : FormF} {i : Ins} (h : fitsF f i = true) : (0 ≤ i.d ∧ i.d ≤ 15) ∧ (0 ≤ i.s ∧ i.s ≤ 15) ∧ (0 ≤ i.cond ∧ i.cond ≤ 15) := by
  unfold fitsF at h
  simp only [Bool.and_eq_true] at h
  exact ⟨field_range h.1.1.1.2, field_range h.1.1.2, field_range h.1.2⟩
theorem at_range {f : FormF} {i : Ins} (hd : 0 ≤ i.d ∧ i.d ≤ 15) (hs : 0 ≤ i.s ∧ i.s ≤ 15) (p : Int) : 0 ≤ atF f i p ∧ atF f i p ≤ 15 := by
  unfold atF
  split
  · exact hd
  · split
    · exact hs
    · omega
theorem opX_range {f : FormF} {i : Ins} (hf : FormOk f) (hc : 0 ≤ i.cond ∧ i.cond ≤ 15) {k : Nat} (hk : k < f.op.length) : 0 ≤ f.op.getD k 0 ∧ f.op.getD k 0 ≤ 255 ∧ 0 ≤ opX f i k ∧ opX f i k ≤ 270 := by
  have := hf.op (f.op.getD k 0) (by simp [hk])
  unfold opX
  split <;> omega
theorem r2_step (f : FormF) (i : Ins) (j : Nat) : (r2 f i (j + 1)).map u8 = (r2 f i j).map u8 ++ [u8 (byteOf (opY f i j))] ∧ (r2 f i (j + 1)).length = (r2 f i j).length + 1 := by
  simp [r2, List.range_succ, Nat.add_assoc]
theorem r4_step (f : FormF) (i : Ins) (j : Nat) : (r4 f i (j + 1)).map u8 = (r4 f i j).map u8 ++ [u8 (byteOf (i.imm % 18446744073709551616 / 256 ^ j))] ∧ (r4 f i (j + 1)).length = (r4 f i j).length + 1 := by
  constructor
  · rw [r4, leBytes_succ, ← List.append_assoc, List.map_append, ← r4]
    rfl
  · simp [r4, leBytes_length, Nat.add_assoc]
theorem u8w (p : Int) : [u8 (byteOf p)] = [T.v (.int .u8 (IntKind.u8.wrap p))] := by rw [byteOf_wrap]
theorem r0_yes {f : FormF} (h : 0 < f.first) : (r0 f).length = 0 + 1 ∧ (r0 f).map u8 = [] ++ [T.v (.int .u8 (IntKind.u8.wrap f.first))] := by
  rw [r0, if_pos h]
  exact ⟨rfl, u8w _⟩
theorem r0_no {f : FormF} (h : ¬ 0 < f.first) : r0 f = [] := by rw [r0, if_neg h]
theorem r1_yes {f : FormF} {i : Ins} (h : f.rex = true) : (r1 f i).length = (r0 f).length + 1 ∧ (r1 f i).map u8 = (r0 f).map u8 ++ [T.v (.int .u8 (IntKind.u8.wrap (64 + 8 * f.w + 4 * (upF f i / 8) + baseF f i / 8)))] := by
  rw [r1, if_pos h, List.length_append, List.map_append]
  refine ⟨rfl, ?_⟩
  rw [← u8w]
  rfl
theorem r1_no {f : FormF} {i : Ins} (h : ¬ f.rex = true) : r1 f i = r0 f := by rw [r1, if_neg h, List.append_nil]
theorem r2_next (f : FormF) (i : Ins) (j : Nat) : (r2 f i (j + 1)).length = (r2 f i j).length + 1 ∧ (r2 f i (j + 1)).map u8 = (r2 f i j).map u8 ++ [T.v (.int .u8 (IntKind.u8.wrap (opY f i j)))] := by
  rw [← u8w]
  exact ⟨(r2_step f i j).2, (r2_step f i j).1⟩
theorem r2_zero (f : FormF) (i : Ins) : r2 f i 0 = r1 f i := by simp [r2]
theorem r3_no {f : FormF} {i : Ins} (h : ¬ 0 ≤ f.mod) : r3 f i = r2 f i f.op.length := by rw [r3, if_neg h, List.append_nil]
theorem r3_yes {f : FormF} {i : Ins} (h : 0 ≤ f.mod) (h2 : (decide (f.mod = 2) && decide (baseF f i % 8 = 4)) = true) : (r3 f i).length = (r2 f i f.op.length).length + 1 + 1 ∧ (r3 f i).map u8 = (r2 f i f.op.length).map u8 ++ [T.v (.int .u8 (IntKind.u8.wrap (64 * f.mod + 8 * regX f i + baseF f i % 8)))] ++ [T.v (.int .u8 36)] := by
  rw [r3, if_pos h, modB, if_pos h2, List.length_append, List.map_append, ← u8w, List.append_assoc]
  exact ⟨rfl, rfl⟩
theorem r3_one {f : FormF} {i : Ins} (h : 0 ≤ f.mod) (h2 : ¬ (decide (f.mod = 2) && decide (baseF f i % 8 = 4)) = true) : (r3 f i).length = (r2 f i f.op.length).length + 1 ∧ (r3 f i).map u8 = (r2 f i f.op.length).map u8 ++ [T.v (.int .u8 (IntKind.u8.wrap (64 * f.mod + 8 * regX f i + baseF f i % 8)))] := by
  rw [r3, if_pos h, modB, if_neg h2, List.length_append, List.map_append, ← u8w]
  exact ⟨rfl, rfl⟩
theorem r4_zero (f : FormF) (i : Ins) : r4 f i 0 = r3 f i := by rw [r4, leBytes, List.append_nil]
theorem byteOf_mod (p : Int) : byteOf (p % 256) = byteOf p := by
  unfold byteOf
  rw [Int.emod_emod_of_dvd _ (Int.dvd_refl 256)]
theorem r4_next (f : FormF) (i : Ins) (j : Nat) : (r4 f i (j + 1)).length = (r4 f i j).length + 1 ∧ (r4 f i (j + 1)).map u8 = (r4 f i j).map u8 ++ [T.v (.int .u8 (IntKind.u8.wrap (i.imm % 18446744073709551616 / 256 ^ j % 256)))] := by
  rw [← u8w, byteOf_mod]
  exact ⟨(r4_step f i j).2, (r4_step f i j).1⟩
theorem imm_step (n : Int) (j : Nat) : 0 ≤ n % 18446744073709551616 / 256 ^ j ∧ n % 18446744073709551616 / 256 ^ j ≤ 18446744073709551615 := div_range _ j (by omega) (by omega)
theorem sizeR_le (k : Int) : sizeR k ≤ 8 := by
  unfold sizeR
  repeat' split
  all_goals decide
theorem bits_len (f : FormF) (i : Ins) : (r0 f).length ≤ 1 ∧ (r1 f i).length ≤ 2 ∧ (∀ j, (r2 f i j).length ≤ 2 + j) ∧ (r3 f i).length ≤ f.op.length + 4 ∧ ∀ j, (r4 f i j).length ≤ f.op.length + 4 + j := by
  have h0 : (r0 f).length ≤ 1 := by unfold r0; split <;> simp
  have h1 : (r1 f i).length ≤ 2 := by
    unfold r1
    rw [List.length_append]
    split <;> simp <;> omega
  have h2 : ∀ j, (r2 f i j).length ≤ 2 + j := fun j => by
    unfold r2
    rw [List.length_append, List.length_map, List.length_range]
    omega
  have h3 : (r3 f i).length ≤ f.op.length + 4 := by
    have := h2 f.op.length
    unfold r3 modB
    rw [List.length_append]
    split
    · split <;> simp <;> omega
    · simp; omega
  refine ⟨h0, h1, h2, h3, fun j => ?_⟩
  rw [r4, List.length_append, leBytes_length]
  omega
theorem form_get {l : List FormF} {j : Nat} (h : j < l.length) : ((l.flatMap formCells).drop (j * 12)).take 12 = formCells (l.getD j default) ∧ (formCells (l.getD j default)).length = 12 := flat_get (f := formCells) (k := 12) (fun _ => rfl) h
theorem len_forms {l : List FormF} : (l.flatMap formCells).length = l.length * 12 := len_flat (f := formCells) (k := 12) (fun _ => rfl) l
def refF (i : Ins) : Option FormF := formsF.find? (fun f => fitsF f i)
def refB (i : Ins) : List UInt8 := match refF i with
  | some f => bytesF f i
  | none => []
def refE (i : Ins) : Int := if (refF i).isSome = true then 0 else 200
end Go.Proofs.YtjndpakhmgapjaaDoor

namespace Go.Proofs.YtjndpakhmgapjaaDoor
open Go Go.RowKit
set_option linter.unusedVariables false
set_option linter.unnecessarySimpa false
set_option linter.unusedSimpArgs false

set_option maxHeartbeats 400000 in
theorem field60 (p n : Int) :
    ACalls Tryd.prog 52 [.v (.int .i64 p), .v (.int .i64 n)] [] fun t_ S => t_ = .v (.bool (fieldR p n)) := by
  refine ACalls.intro Tryd.func52 rfl Tryd.ntmps52 (Nat.le_of_ble_eq_true rfl) rfl fun X w0 => ?_
  refine AW.rseq ?_
  refine Y1 (Yv.assign rfl eV) ?_
  refine nl ?_
  refine AW.rseq ?_
  refine Y1 (Yv.move rfl eV) ?_
  refine Y1 (Yv.eql rfl eV eV) ?_
  refine Y1 (Yv.move rfl eV) ?_
  refine AWL.ygT rfl rfl rfl rfl (B rfl) (Yv.move rfl (E rfl rfl)) ?_
  refine AWL.ygT rfl rfl rfl rfl (B rfl) (Yv.eql rfl (Eg rfl rfl id) (E rfl rfl)) ?_
  refine Y1 (Yv.pickAnd rfl (E rfl rfl) (Eg rfl rfl id)) ?_
  refine Y1 (Yv.move rfl eV) ?_
  refine AWL.ygF rfl rfl rfl rfl (B rfl) (Yv.move rfl (E rfl rfl)) ?_
  refine AWL.ygF rfl rfl rfl rfl (B rfl) (Yv.neq rfl (Eg rfl rfl id) (E rfl rfl)) ?_
  refine AWL.ygF rfl rfl rfl rfl (B rfl) (Yv.move rfl (Eg rfl rfl id)) ?_
  refine AWL.ygT rfl rfl rfl rfl (B rfl) (Yv.move rfl (E rfl rfl)) ?_
  refine AWL.ygT rfl rfl rfl rfl (B rfl) (Yv.geq rfl (Eg rfl rfl id) (E rfl rfl)) ?_
  refine AWL.ygF rfl rfl rfl rfl (B rfl) (Yv.pickAnd rfl (Eg rfl rfl id) (Eg rfl rfl id)) ?_
  refine AWL.ygF rfl rfl rfl rfl (B rfl) (Yv.move rfl (Eg rfl rfl id)) ?_
  refine AWL.ygT rfl rfl rfl rfl (B rfl) (Yv.move rfl (E rfl rfl)) ?_
  refine AWL.ygT rfl rfl rfl rfl (B rfl) (Yv.leq rfl (Eg rfl rfl id) (E rfl rfl)) ?_
  refine AWL.ygF rfl rfl rfl rfl (B rfl) (Yv.pickAnd rfl (Eg rfl rfl id) (Eg rfl rfl id)) ?_
  refine Y1 (Yv.pickOr (t := .const (.bool true)) rfl (E rfl rfl) (Eg rfl rfl id)) ?_
  refine Y1 (Yv.assign rfl eV) ?_
  refine nl ?_
  refine AW.ret (retI (.tmp rfl .nil) ?_)
  rfl

set_option maxHeartbeats 400000 in
theorem within69 (n lo hi : Int) :
    ACalls Tryd.prog 67 [.v (.int .i64 n), .v (.int .i64 lo), .v (.int .i64 hi)] [] fun t_ S => t_ = .v (.bool (inF n lo hi)) := by
  refine ACalls.intro Tryd.func67 rfl Tryd.ntmps67 (Nat.le_of_ble_eq_true rfl) rfl fun X w0 => ?_
  refine AW.rseq ?_
  refine Y1 (Yv.assign rfl eV) ?_
  refine nl ?_
  refine AW.rseq ?_
  refine Y1 (Yv.move rfl eV) ?_
  refine Y1 (Yv.move rfl eV) ?_
  refine Y1 (Yv.geq rfl eV eV) ?_
  refine Y1 (Yv.move rfl eV) ?_
  refine AWL.ygT rfl rfl rfl rfl (B rfl) (Yv.move rfl (E rfl rfl)) ?_
  refine AWL.ygT rfl rfl rfl rfl (B rfl) (Yv.move rfl (E rfl rfl)) ?_
  refine AWL.ygT rfl rfl rfl rfl (B rfl) (Yv.leq rfl (Eg rfl rfl id) (Eg rfl rfl id)) ?_
  refine Y1 (Yv.pickAnd rfl (E rfl rfl) (Eg rfl rfl id)) ?_
  refine Y1 (Yv.assign rfl eV) ?_
  refine nl ?_
  refine AW.ret (retI (.tmp rfl .nil) ?_)
  rfl

set_option maxHeartbeats 400000 in
theorem short70 (n : Int) :
    ACalls Tryd.prog 66 [.v (.int .i64 n)] [] fun t_ S => t_ = .v (.bool (smallF n)) := by
  refine ACalls.intro Tryd.func66 rfl Tryd.ntmps66 (Nat.le_of_ble_eq_true rfl) rfl fun X w0 => ?_
  refine AW.rseq ?_
  refine Y1 (Yv.assign rfl eV) ?_
  refine nl ?_
  refine AW.rseq ?_
  refine Y1 (Yv.move rfl eV) ?_
  refine AWL.callP rfl rfl (B rfl) rfl ce_67 (E rfl rfl) (evsC (E rfl rfl) (evsC (E rfl rfl) (evsC (E rfl rfl) evs0))) (within69 n _ _) (fun t S h => h) ?_
  refine Y1 (Yv.assign rfl eV) ?_
  refine nl ?_
  refine AW.ret (retI (.tmp rfl .nil) ?_)
  rfl

set_option maxHeartbeats 400000 in
theorem number61 (f : FormF) (n : Int) :
    ACalls Tryd.prog 53 [formT f, .v (.int .i64 n)] [] fun t_ S => t_ = .v (.bool (numberR f n)) := by
  refine ACalls.intro Tryd.func53 rfl Tryd.ntmps53 (Nat.le_of_ble_eq_true rfl) rfl fun X w0 => ?_
  refine AW.rseq ?_
  refine AWL.boxOp rfl rfl (B rfl) rfl (E rfl rfl) rfl (fun b2 => ?_)
  refine Y1 (Yv.assign rfl eV) ?_
  refine nl ?_
  refine AW.seq ?_
  refine AW.rseq ?_
  refine Y1 (Yv.fieldBox rfl fo_45_11 eV) ?_
  refine Y1 (Yv.loadBox rfl ag_3 (i := 0) rfl (E rfl rfl) rfl) ?_
  refine nl ?_
  refine AW.block ?_
  refine AW.rseq ?_
  refine Y1 (Yv.eql rfl eV eV) ?_
  refine Y1 (Yv.assign rfl eV) ?_
  refine nl ?_
  refine AW.cond rfl (fun h0t => ?_) (fun h0f => ?_)
  ·
   try replace h0t := of_decide_eq_true h0t
   refine AW.rseq ?_
   refine Y1 (Yv.move rfl eV) ?_
   refine Y1 (Yv.eql rfl eV eV) ?_
   refine Y1 (Yv.assign rfl eV) ?_
   refine nl ?_
   refine AW.ret (retI (.tmp rfl .nil) ?_)
   show T.v (.bool _) = T.v (.bool _)
   rw [numberR, if_pos h0t]
  try replace h0f := of_decide_eq_false h0f
  refine AW.rseq ?_
  refine Y1 (Yv.eql rfl eV eV) ?_
  refine Y1 (Yv.assign rfl eV) ?_
  refine nl ?_
  refine AW.cond rfl (fun h1t => ?_) (fun h1f => ?_)
  ·
   try replace h1t := of_decide_eq_true h1t
   refine AW.seq ?_
   refine AW.rseq ?_
   refine Y1 (Yv.fieldBox rfl fo_45_0 eV) ?_
   refine Y1 (Yv.loadBox rfl ag_3 (i := 0) rfl (E rfl rfl) rfl) ?_
   refine Y1 (Yv.eql rfl eV eV) ?_
   refine Y1 (Yv.move rfl eV) ?_
   refine AWL.ygF rfl rfl rfl rfl (B rfl) (Yv.fieldBox rfl fo_45_0 (E rfl rfl)) ?_
   refine AWL.ygF rfl rfl rfl rfl (B rfl) (Yv.loadBox rfl ag_3 (i := 0) rfl (Eg rfl rfl id) rfl) ?_
   refine AWL.ygF rfl rfl rfl rfl (B rfl) (Yv.eql rfl (Eg rfl rfl id) (E rfl rfl)) ?_
   refine Y1 (Yv.pickOr (t := .const (.bool true)) rfl (E rfl rfl) (Eg rfl rfl id)) ?_
   refine nl ?_
   refine AW.cond rfl (fun h2t => ?_) (fun h2f => ?_)
   ·
    try replace h2t := of_decide_eq_true h2t
    refine AW.rseq ?_
    refine Y1 (Yv.move rfl eV) ?_
    refine AWL.callP rfl rfl (B rfl) rfl ce_67 (E rfl rfl) (evsC (E rfl rfl) (evsC (E rfl rfl) (evsC (E rfl rfl) evs0))) (within69 n _ _) (fun t S h => h) ?_
    refine Y1 (Yv.assign rfl eV) ?_
    refine nl ?_
    refine AW.ret (retI (.tmp rfl .nil) ?_)
    show T.v (.bool _) = T.v (.bool _)
    rw [numberR, if_neg h0f, if_pos h1t, if_pos h2t]
   try replace h2f := of_decide_eq_false h2f
   refine AW.skip ?_
   refine AW.rseq ?_
   refine Y1 (Yv.move rfl eV) ?_
   refine AWL.callP rfl rfl (B rfl) rfl ce_67 (E rfl rfl) (evsC (E rfl rfl) (evsC (E rfl rfl) (evsC (E rfl rfl) evs0))) (within69 n _ _) (fun t S h => h) ?_
   refine Y1 (Yv.assign rfl eV) ?_
   refine nl ?_
   refine AW.ret (retI (.tmp rfl .nil) ?_)
   show T.v (.bool _) = T.v (.bool _)
   rw [numberR, if_neg h0f, if_pos h1t, if_neg (ne_true_of_eq_false h2f)]
  try replace h1f := of_decide_eq_false h1f
  refine AW.rseq ?_
  refine Y1 (Yv.eql rfl eV eV) ?_
  refine Y1 (Yv.assign rfl eV) ?_
  refine nl ?_
  refine AW.cond rfl (fun h3t => ?_) (fun h3f => ?_)
  ·
   try replace h3t := of_decide_eq_true h3t
   refine AW.rseq ?_
   refine Y1 (Yv.move rfl eV) ?_
   refine AWL.callP rfl rfl (B rfl) rfl ce_66 (E rfl rfl) (evsC (E rfl rfl) evs0) (short70 n) (fun t S h => h) ?_
   refine Y1 (Yv.assign rfl eV) ?_
   refine nl ?_
   refine AW.ret (retI (.tmp rfl .nil) ?_)
   show T.v (.bool _) = T.v (.bool _)
   rw [numberR, if_neg h0f, if_neg h1f, if_pos h3t]
  try replace h3f := of_decide_eq_false h3f
  refine AW.skip ?_
  refine AW.rseq ?_
  refine Y1 (Yv.move rfl eV) ?_
  refine AWL.callP rfl rfl (B rfl) rfl ce_66 (E rfl rfl) (evsC (E rfl rfl) evs0) (short70 n) (fun t S h => h) ?_
  refine Y1 (Yv.not rfl eV) ?_
  refine Y1 (Yv.assign rfl eV) ?_
  refine nl ?_
  refine AW.ret (retI (.tmp rfl .nil) ?_)
  show T.v (.bool _) = T.v (.bool _)
  rw [numberR, if_neg h0f, if_neg h1f, if_neg h3f]

set_option maxHeartbeats 400000 in
theorem fits51 (f : FormF) (i : Ins) :
    ACalls Tryd.prog 24 [formT f, insT i] [] fun t_ S => t_ = .v (.bool (fitsF f i)) := by
  refine ACalls.intro Tryd.func24 rfl Tryd.ntmps24 (Nat.le_of_ble_eq_true rfl) rfl fun X w0 => ?_
  refine AW.rseq ?_
  refine AWL.boxOp rfl rfl (B rfl) rfl (E rfl rfl) rfl (fun b2 => ?_)
  refine AWL.boxOp rfl rfl (B rfl) rfl (E rfl rfl) rfl (fun b3 => ?_)
  refine Y1 (Yv.assign rfl eV) ?_
  refine nl ?_
  refine AW.rseq ?_
  refine Y1 (Yv.fieldBox rfl fo_45_8 eV) ?_
  refine Y1 (Yv.loadBox rfl ag_3 (i := 0) rfl (E rfl rfl) rfl) ?_
  refine Y1 (Yv.fieldBox rfl fo_23_1 eV) ?_
  refine Y1 (Yv.loadBox rfl ag_3 (i := 1) rfl (E rfl rfl) rfl) ?_
  refine AWL.callP rfl rfl (B rfl) rfl ce_52 (E rfl rfl) (evsC (E rfl rfl) (evsC (E rfl rfl) evs0)) (field60 f.d i.d) (fun t S h => h) ?_
  refine Y1 (Yv.assign rfl eV) ?_
  refine nl ?_
  refine AW.rseq ?_
  refine Y1 (Yv.fieldBox rfl fo_45_9 eV) ?_
  refine Y1 (Yv.loadBox rfl ag_3 (i := 0) rfl (E rfl rfl) rfl) ?_
  refine Y1 (Yv.fieldBox rfl fo_23_2 eV) ?_
  refine Y1 (Yv.loadBox rfl ag_3 (i := 1) rfl (E rfl rfl) rfl) ?_
  refine AWL.callP rfl rfl (B rfl) rfl ce_52 (E rfl rfl) (evsC (E rfl rfl) (evsC (E rfl rfl) evs0)) (field60 f.s i.s) (fun t S h => h) ?_
  refine Y1 (Yv.assign rfl eV) ?_
  refine nl ?_
  refine AW.rseq ?_
  refine Y1 (Yv.fieldBox rfl fo_45_10 eV) ?_
  refine Y1 (Yv.loadBox rfl ag_3 (i := 0) rfl (E rfl rfl) rfl) ?_
  refine Y1 (Yv.fieldBox rfl fo_23_3 eV) ?_
  refine Y1 (Yv.loadBox rfl ag_3 (i := 1) rfl (E rfl rfl) rfl) ?_
  refine AWL.callP rfl rfl (B rfl) rfl ce_52 (E rfl rfl) (evsC (E rfl rfl) (evsC (E rfl rfl) evs0)) (field60 f.cond i.cond) (fun t S h => h) ?_
  refine Y1 (Yv.assign rfl eV) ?_
  refine nl ?_
  refine AW.rseq ?_
  refine Y1 (Yv.loadBoxA rfl ag_45 (i := 0) rfl (E rfl rfl) rfl rfl) ?_
  refine Y1 (Yv.fieldBox rfl fo_23_5 eV) ?_
  refine Y1 (Yv.loadBox rfl ag_2 (i := 1) rfl (E rfl rfl) rfl) ?_
  refine AWL.callP rfl rfl (B rfl) rfl ce_53 (E rfl rfl) (evsC (E rfl rfl) (evsC (E rfl rfl) evs0)) (number61 f i.imm) (fun t S h => h) ?_
  refine Y1 (Yv.assign rfl eV) ?_
  refine nl ?_
  refine AW.rseq ?_
  refine Y1 (Yv.fieldBox rfl fo_45_0 eV) ?_
  refine Y1 (Yv.loadBox rfl ag_3 (i := 0) rfl (E rfl rfl) rfl) ?_
  refine Y1 (Yv.fieldBox rfl fo_23_0 eV) ?_
  refine Y1 (Yv.loadBox rfl ag_3 (i := 1) rfl (E rfl rfl) rfl) ?_
  refine Y1 (Yv.eql rfl eV eV) ?_
  refine Y1 (Yv.move rfl eV) ?_
  refine AWL.ygT rfl rfl rfl rfl (B rfl) (Yv.fieldBox rfl fo_45_1 (E rfl rfl)) ?_
  refine AWL.ygT rfl rfl rfl rfl (B rfl) (Yv.loadBox rfl ag_3 (i := 0) rfl (Eg rfl rfl id) rfl) ?_
  refine AWL.ygT rfl rfl rfl rfl (B rfl) (Yv.fieldBox rfl fo_23_4 (E rfl rfl)) ?_
  refine AWL.ygT rfl rfl rfl rfl (B rfl) (Yv.loadBox rfl ag_3 (i := 1) rfl (Eg rfl rfl id) rfl) ?_
  refine AWL.ygT rfl rfl rfl rfl (B rfl) (Yv.eql rfl (Eg rfl rfl id) (Eg rfl rfl id)) ?_
  refine Y1 (Yv.pickAnd rfl (E rfl rfl) (Eg rfl rfl id)) ?_
  refine Y1 (Yv.move rfl eV) ?_
  refine AWL.ygT rfl rfl rfl rfl (B rfl) (Yv.move rfl (E rfl rfl)) ?_
  refine Y1 (Yv.pickAnd rfl (E rfl rfl) (Eg rfl rfl id)) ?_
  refine Y1 (Yv.move rfl eV) ?_
  refine AWL.ygT rfl rfl rfl rfl (B rfl) (Yv.move rfl (E rfl rfl)) ?_
  refine Y1 (Yv.pickAnd rfl (E rfl rfl) (Eg rfl rfl id)) ?_
  refine Y1 (Yv.move rfl eV) ?_
  refine AWL.ygT rfl rfl rfl rfl (B rfl) (Yv.move rfl (E rfl rfl)) ?_
  refine Y1 (Yv.pickAnd rfl (E rfl rfl) (Eg rfl rfl id)) ?_
  refine Y1 (Yv.move rfl eV) ?_
  refine AWL.ygT rfl rfl rfl rfl (B rfl) (Yv.move rfl (E rfl rfl)) ?_
  refine Y1 (Yv.pickAnd rfl (E rfl rfl) (Eg rfl rfl id)) ?_
  refine Y1 (Yv.assign rfl eV) ?_
  refine nl ?_
  refine AW.ret (retI (.tmp rfl .nil) ?_)
  rfl

set_option maxHeartbeats 400000 in
theorem at71 (f : FormF) (i : Ins) (p : Int) :
    ACalls Tryd.prog 54 [formT f, insT i, .v (.int .i64 p)] [] fun t_ S => t_ = .v (.int .i64 (atF f i p)) := by
  refine ACalls.intro Tryd.func54 rfl Tryd.ntmps54 (Nat.le_of_ble_eq_true rfl) rfl fun X w0 => ?_
  refine AW.rseq ?_
  refine AWL.boxOp rfl rfl (B rfl) rfl (E rfl rfl) rfl (fun b3 => ?_)
  refine AWL.boxOp rfl rfl (B rfl) rfl (E rfl rfl) rfl (fun b4 => ?_)
  refine Y1 (Yv.assign rfl eV) ?_
  refine nl ?_
  refine AW.seq ?_
  refine AW.rseq ?_
  refine Y1 (Yv.fieldBox rfl fo_45_8 eV) ?_
  refine Y1 (Yv.loadBox rfl ag_3 (i := 0) rfl (E rfl rfl) rfl) ?_
  refine Y1 (Yv.move rfl eV) ?_
  refine Y1 (Yv.eql rfl eV eV) ?_
  refine nl ?_
  refine AW.cond rfl (fun h0t => ?_) (fun h0f => ?_)
  ·
   try replace h0t := of_decide_eq_true h0t
   refine AW.rseq ?_
   refine Y1 (Yv.fieldBox rfl fo_23_1 eV) ?_
   refine Y1 (Yv.loadBox rfl ag_3 (i := 1) rfl (E rfl rfl) rfl) ?_
   refine Y1 (Yv.assign rfl eV) ?_
   refine nl ?_
   refine AW.ret (retI (.tmp rfl .nil) ?_)
   show T.v (.int .i64 _) = T.v (.int .i64 _)
   rw [atF, if_pos h0t]
  try replace h0f := of_decide_eq_false h0f
  refine AW.skip ?_
  refine AW.seq ?_
  refine AW.rseq ?_
  refine Y1 (Yv.fieldBox rfl fo_45_9 eV) ?_
  refine Y1 (Yv.loadBox rfl ag_3 (i := 0) rfl (E rfl rfl) rfl) ?_
  refine Y1 (Yv.move rfl eV) ?_
  refine Y1 (Yv.eql rfl eV eV) ?_
  refine nl ?_
  refine AW.cond rfl (fun h1t => ?_) (fun h1f => ?_)
  ·
   try replace h1t := of_decide_eq_true h1t
   refine AW.rseq ?_
   refine Y1 (Yv.fieldBox rfl fo_23_2 eV) ?_
   refine Y1 (Yv.loadBox rfl ag_3 (i := 1) rfl (E rfl rfl) rfl) ?_
   refine Y1 (Yv.assign rfl eV) ?_
   refine nl ?_
   refine AW.ret (retI (.tmp rfl .nil) ?_)
   show T.v (.int .i64 _) = T.v (.int .i64 _)
   rw [atF, if_neg h0f, if_pos h1t]
  try replace h1f := of_decide_eq_false h1f
  refine AW.skip ?_
  refine AW.rseq ?_
  refine Y1 (Yv.assign rfl eV) ?_
  refine nl ?_
  refine AW.ret (retI (.tmp rfl .nil) ?_)
  show T.v (.int .i64 _) = T.v (.int .i64 _)
  rw [atF, if_neg h0f, if_neg h1f]

set_option maxHeartbeats 2000000 in
theorem plain56 (k d s : Int) (o : List T) :
    ACalls Tryd.prog 48 [.v (.int .i64 k), .v (.int .i64 d), .v (.int .i64 s), .sl 1 o] [] fun t_ S => t_ = .agg [.v (.int .i64 k), .v (.int .i64 0), .v (.int .i64 0), .v (.bool true), .v (.int .i64 1), .sl 1 o, .v (.int .i64 3), .v (.int .i64 0), .v (.int .i64 d), .v (.int .i64 s), .v (.int .i64 0), .v (.int .i64 0)] := by
  refine ACalls.intro Tryd.func48 rfl Tryd.ntmps48 (Nat.le_of_ble_eq_true rfl) rfl fun X w0 => ?_
  refine AW.rseq ?_
  refine AWL.allocOp rfl rfl (B rfl) rfl zc_45 (fun b8 => ?_)
  refine nl ?_
  refine AW.rseq ?_
  refine Y1 (Yv.move rfl eV) ?_
  refine Y1 (Yv.move rfl eV) ?_
  refine Y1 (Yv.move rfl eV) ?_
  refine Y1 (Yv.move rfl eV) ?_
  refine Y1 (Yv.buildS (cs := [.v (.int .i64 k), .v (.int .i64 0), .v (.int .i64 0), .v (.bool true), .v (.int .i64 1), .sl 1 o, .v (.int .i64 3), .v (.int .i64 0), .v (.int .i64 d), .v (.int .i64 s), .v (.int .i64 0), .v (.int .i64 0)]) rfl sh_45 (evpC (E rfl rfl) (evpC (E rfl rfl) (evpC (E rfl rfl) (evpC (E rfl rfl) (evpC (E rfl rfl) (evpC (E rfl rfl) (evpC (E rfl rfl) evp0))))))) (fun _ => by kernel_rfl)) ?_
  refine AWL.storeBox (i := 0) rfl rfl rfl ag_45 rfl (E rfl rfl) (E rfl rfl) rfl rfl (Nat.le_of_ble_eq_true rfl) ?_
  refine nl ?_
  refine AW.ret (retI (.cellA (i := 0) rfl ag_45 rfl rfl rfl .nil) ?_)
  rfl

set_option maxHeartbeats 2000000 in
theorem digit57 (k n m o : Int) :
    ACalls Tryd.prog 49 [.v (.int .i64 k), .v (.int .i64 n), .v (.int .i64 m), .v (.int .i64 o)] [] fun t_ S => t_ = .agg [.v (.int .i64 k), .v (.int .i64 0), .v (.int .i64 0), .v (.bool true), .v (.int .i64 1), .sl 1 [.v (.int .i64 o)], .v (.int .i64 3), .v (.int .i64 n), .v (.int .i64 2), .v (.int .i64 0), .v (.int .i64 0), .v (.int .i64 m)] := by
  refine ACalls.intro Tryd.func49 rfl Tryd.ntmps49 (Nat.le_of_ble_eq_true rfl) rfl fun X w0 => ?_
  refine AW.rseq ?_
  refine AWL.allocOp rfl rfl (B rfl) rfl zc_45 (fun b8 => ?_)
  refine nl ?_
  refine AW.rseq ?_
  refine Y1 (Yv.move rfl eV) ?_
  refine Y1 (Yv.move rfl eV) ?_
  refine AWL.buildSlice1 rfl rfl (B rfl) rfl el_43 rfl (evsC (E rfl rfl) evs0) (Nat.le_of_ble_eq_true rfl) rfl rfl ?_
  refine Y1 (Yv.move rfl eV) ?_
  refine Y1 (Yv.move rfl eV) ?_
  refine Y1 (Yv.buildS (cs := [.v (.int .i64 k), .v (.int .i64 0), .v (.int .i64 0), .v (.bool true), .v (.int .i64 1), .sl 1 [.v (.int .i64 o)], .v (.int .i64 3), .v (.int .i64 n), .v (.int .i64 2), .v (.int .i64 0), .v (.int .i64 0), .v (.int .i64 m)]) rfl sh_45 (evpC (E rfl rfl) (evpC (E rfl rfl) (evpC (E rfl rfl) (evpC (E rfl rfl) (evpC (E rfl rfl) (evpC (E rfl rfl) (evpC (E rfl rfl) (evpC (E rfl rfl) evp0)))))))) (fun _ => by kernel_rfl)) ?_
  refine AWL.storeBox (i := 0) rfl rfl rfl ag_45 rfl (E rfl rfl) (E rfl rfl) rfl rfl (Nat.le_of_ble_eq_true rfl) ?_
  refine nl ?_
  refine AW.ret (retI (.cellA (i := 0) rfl ag_45 rfl rfl rfl .nil) ?_)
  rfl

set_option maxHeartbeats 2000000 in
theorem mem58 (k z w d s : Int) (o : List T) :
    ACalls Tryd.prog 50 [.v (.int .i64 k), .v (.int .i64 z), .v (.int .i64 w), .v (.int .i64 d), .v (.int .i64 s), .sl 1 o] [] fun t_ S => t_ = .agg [.v (.int .i64 k), .v (.int .i64 z), .v (.int .i64 0), .v (.bool true), .v (.int .i64 w), .sl 1 o, .v (.int .i64 2), .v (.int .i64 0), .v (.int .i64 d), .v (.int .i64 s), .v (.int .i64 0), .v (.int .i64 6)] := by
  refine ACalls.intro Tryd.func50 rfl Tryd.ntmps50 (Nat.le_of_ble_eq_true rfl) rfl fun X w0 => ?_
  refine AW.rseq ?_
  refine AWL.allocOp rfl rfl (B rfl) rfl zc_45 (fun b12 => ?_)
  refine nl ?_
  refine AW.rseq ?_
  refine Y1 (Yv.move rfl eV) ?_
  refine Y1 (Yv.move rfl eV) ?_
  refine Y1 (Yv.move rfl eV) ?_
  refine Y1 (Yv.move rfl eV) ?_
  refine Y1 (Yv.move rfl eV) ?_
  refine Y1 (Yv.move rfl eV) ?_
  refine Y1 (Yv.buildS (cs := [.v (.int .i64 k), .v (.int .i64 z), .v (.int .i64 0), .v (.bool true), .v (.int .i64 w), .sl 1 o, .v (.int .i64 2), .v (.int .i64 0), .v (.int .i64 d), .v (.int .i64 s), .v (.int .i64 0), .v (.int .i64 6)]) rfl sh_45 (evpC (E rfl rfl) (evpC (E rfl rfl) (evpC (E rfl rfl) (evpC (E rfl rfl) (evpC (E rfl rfl) (evpC (E rfl rfl) (evpC (E rfl rfl) (evpC (E rfl rfl) (evpC (E rfl rfl) evp0))))))))) (fun _ => by kernel_rfl)) ?_
  refine AWL.storeBox (i := 0) rfl rfl rfl ag_45 rfl (E rfl rfl) (E rfl rfl) rfl rfl (Nat.le_of_ble_eq_true rfl) ?_
  refine nl ?_
  refine AW.ret (retI (.cellA (i := 0) rfl ag_45 rfl rfl rfl .nil) ?_)
  rfl

set_option maxHeartbeats 2000000 in
theorem real59 (k f w d s o : Int) :
    ACalls Tryd.prog 51 [.v (.int .i64 k), .v (.int .i64 f), .v (.int .i64 w), .v (.int .i64 d), .v (.int .i64 s), .v (.int .i64 o)] [] fun t_ S => t_ = .agg [.v (.int .i64 k), .v (.int .i64 0), .v (.int .i64 f), .v (.bool true), .v (.int .i64 w), .sl 1 [.v (.int .i64 15), .v (.int .i64 o)], .v (.int .i64 3), .v (.int .i64 0), .v (.int .i64 d), .v (.int .i64 s), .v (.int .i64 0), .v (.int .i64 0)] := by
  refine ACalls.intro Tryd.func51 rfl Tryd.ntmps51 (Nat.le_of_ble_eq_true rfl) rfl fun X w0 => ?_
  refine AW.rseq ?_
  refine AWL.allocOp rfl rfl (B rfl) rfl zc_45 (fun b12 => ?_)
  refine nl ?_
  refine AW.rseq ?_
  refine Y1 (Yv.move rfl eV) ?_
  refine Y1 (Yv.move rfl eV) ?_
  refine Y1 (Yv.move rfl eV) ?_
  refine Y1 (Yv.move rfl eV) ?_
  refine AWL.buildSlice1 rfl rfl (B rfl) rfl el_43 rfl (evsC (E rfl rfl) (evsC (E rfl rfl) evs0)) (Nat.le_of_ble_eq_true rfl) rfl rfl ?_
  refine Y1 (Yv.move rfl eV) ?_
  refine Y1 (Yv.move rfl eV) ?_
  refine Y1 (Yv.buildS (cs := [.v (.int .i64 k), .v (.int .i64 0), .v (.int .i64 f), .v (.bool true), .v (.int .i64 w), .sl 1 [.v (.int .i64 15), .v (.int .i64 o)], .v (.int .i64 3), .v (.int .i64 0), .v (.int .i64 d), .v (.int .i64 s), .v (.int .i64 0), .v (.int .i64 0)]) rfl sh_45 (evpC (E rfl rfl) (evpC (E rfl rfl) (evpC (E rfl rfl) (evpC (E rfl rfl) (evpC (E rfl rfl) (evpC (E rfl rfl) (evpC (E rfl rfl) (evpC (E rfl rfl) evp0)))))))) (fun _ => by kernel_rfl)) ?_
  refine AWL.storeBox (i := 0) rfl rfl rfl ag_45 rfl (E rfl rfl) (E rfl rfl) rfl rfl (Nat.le_of_ble_eq_true rfl) ?_
  refine nl ?_
  refine AW.ret (retI (.cellA (i := 0) rfl ag_45 rfl rfl rfl .nil) ?_)
  rfl

set_option maxRecDepth 4000 in
set_option maxHeartbeats 4000000 in
theorem forms50  :
    ACalls Tryd.prog 23 [] [] fun t_ S => t_ = .sl 12 (formsF.flatMap formCells) := by
  refine ACalls.intro Tryd.func23 rfl Tryd.ntmps23 (Nat.le_of_ble_eq_true rfl) rfl fun X w0 => ?_
  refine AW.rseq ?_
  refine Y1 (Yv.assign rfl eV) ?_
  refine nl ?_
  refine AW.rseq ?_
  refine AWL.buildSlice1 rfl rfl (B rfl) rfl el_43 rfl (evsC (E rfl rfl) evs0) (Nat.le_of_ble_eq_true rfl) rfl rfl ?_
  refine AWL.callT rfl rfl (B rfl) rfl ce_48 (E rfl rfl) (evsC (E rfl rfl) (evsC (E rfl rfl) (evsC (E rfl rfl) (evsC (E rfl rfl) evs0)))) (plain56 _ _ _ _) ?_
  rintro t2 S2 rfl
  refine AWL.callT rfl rfl (B rfl) rfl ce_49 (E rfl rfl) (evsC (E rfl rfl) (evsC (E rfl rfl) (evsC (E rfl rfl) (evsC (E rfl rfl) evs0)))) (digit57 _ _ _ _) ?_
  rintro t3 S3 rfl
  refine AWL.buildSlice1 rfl rfl (B rfl) rfl el_43 rfl (evsC (E rfl rfl) evs0) (Nat.le_of_ble_eq_true rfl) rfl rfl ?_
  refine Y1 (Yv.buildS (cs := [.v (.int .i64 (2)), .v (.int .i64 (0)), .v (.int .i64 (0)), .v (.bool true), .v (.int .i64 (1)), .sl 1 [.v (.int .i64 184)], .v (.int .i64 (-1)), .v (.int .i64 (0)), .v (.int .i64 (3)), .v (.int .i64 (0)), .v (.int .i64 (0)), .v (.int .i64 (7))]) rfl sh_45 (evpC (E rfl rfl) (evpC (E rfl rfl) (evpC (E rfl rfl) (evpC (E rfl rfl) (evpC (E rfl rfl) (evpC (E rfl rfl) (evpC (E rfl rfl) evp0))))))) (fun _ => by kernel_rfl)) ?_
  refine AWL.buildSlice1 rfl rfl (B rfl) rfl el_43 rfl (evsC (E rfl rfl) evs0) (Nat.le_of_ble_eq_true rfl) rfl rfl ?_
  refine AWL.callT rfl rfl (B rfl) rfl ce_50 (E rfl rfl) (evsC (E rfl rfl) (evsC (E rfl rfl) (evsC (E rfl rfl) (evsC (E rfl rfl) (evsC (E rfl rfl) (evsC (E rfl rfl) evs0)))))) (mem58 _ _ _ _ _ _) ?_
  rintro t7 S7 rfl
  refine AWL.buildSlice1 rfl rfl (B rfl) rfl el_43 rfl (evsC (E rfl rfl) evs0) (Nat.le_of_ble_eq_true rfl) rfl rfl ?_
  refine AWL.callT rfl rfl (B rfl) rfl ce_50 (E rfl rfl) (evsC (E rfl rfl) (evsC (E rfl rfl) (evsC (E rfl rfl) (evsC (E rfl rfl) (evsC (E rfl rfl) (evsC (E rfl rfl) evs0)))))) (mem58 _ _ _ _ _ _) ?_
  rintro t9 S9 rfl
  refine AWL.buildSlice1 rfl rfl (B rfl) rfl el_43 rfl (evsC (E rfl rfl) (evsC (E rfl rfl) evs0)) (Nat.le_of_ble_eq_true rfl) rfl rfl ?_
  refine AWL.callT rfl rfl (B rfl) rfl ce_50 (E rfl rfl) (evsC (E rfl rfl) (evsC (E rfl rfl) (evsC (E rfl rfl) (evsC (E rfl rfl) (evsC (E rfl rfl) (evsC (E rfl rfl) evs0)))))) (mem58 _ _ _ _ _ _) ?_
  rintro t11 S11 rfl
  refine AWL.buildSlice1 rfl rfl (B rfl) rfl el_43 rfl (evsC (E rfl rfl) evs0) (Nat.le_of_ble_eq_true rfl) rfl rfl ?_
  refine AWL.callT rfl rfl (B rfl) rfl ce_50 (E rfl rfl) (evsC (E rfl rfl) (evsC (E rfl rfl) (evsC (E rfl rfl) (evsC (E rfl rfl) (evsC (E rfl rfl) (evsC (E rfl rfl) evs0)))))) (mem58 _ _ _ _ _ _) ?_
  rintro t13 S13 rfl
  refine AWL.buildSlice1 rfl rfl (B rfl) rfl el_43 rfl (evsC (E rfl rfl) evs0) (Nat.le_of_ble_eq_true rfl) rfl rfl ?_
  refine AWL.callT rfl rfl (B rfl) rfl ce_50 (E rfl rfl) (evsC (E rfl rfl) (evsC (E rfl rfl) (evsC (E rfl rfl) (evsC (E rfl rfl) (evsC (E rfl rfl) (evsC (E rfl rfl) evs0)))))) (mem58 _ _ _ _ _ _) ?_
  rintro t15 S15 rfl
  refine AWL.buildSlice1 rfl rfl (B rfl) rfl el_43 rfl (evsC (E rfl rfl) evs0) (Nat.le_of_ble_eq_true rfl) rfl rfl ?_
  refine AWL.callT rfl rfl (B rfl) rfl ce_50 (E rfl rfl) (evsC (E rfl rfl) (evsC (E rfl rfl) (evsC (E rfl rfl) (evsC (E rfl rfl) (evsC (E rfl rfl) (evsC (E rfl rfl) evs0)))))) (mem58 _ _ _ _ _ _) ?_
  rintro t17 S17 rfl
  refine AWL.buildSlice1 rfl rfl (B rfl) rfl el_43 rfl (evsC (E rfl rfl) evs0) (Nat.le_of_ble_eq_true rfl) rfl rfl ?_
  refine AWL.callT rfl rfl (B rfl) rfl ce_50 (E rfl rfl) (evsC (E rfl rfl) (evsC (E rfl rfl) (evsC (E rfl rfl) (evsC (E rfl rfl) (evsC (E rfl rfl) (evsC (E rfl rfl) evs0)))))) (mem58 _ _ _ _ _ _) ?_
  rintro t19 S19 rfl
  refine AWL.buildSlice1 rfl rfl (B rfl) rfl el_43 rfl (evsC (E rfl rfl) evs0) (Nat.le_of_ble_eq_true rfl) rfl rfl ?_
  refine AWL.callT rfl rfl (B rfl) rfl ce_48 (E rfl rfl) (evsC (E rfl rfl) (evsC (E rfl rfl) (evsC (E rfl rfl) (evsC (E rfl rfl) evs0)))) (plain56 _ _ _ _) ?_
  rintro t21 S21 rfl
  refine AWL.buildSlice1 rfl rfl (B rfl) rfl el_43 rfl (evsC (E rfl rfl) evs0) (Nat.le_of_ble_eq_true rfl) rfl rfl ?_
  refine AWL.callT rfl rfl (B rfl) rfl ce_48 (E rfl rfl) (evsC (E rfl rfl) (evsC (E rfl rfl) (evsC (E rfl rfl) (evsC (E rfl rfl) evs0)))) (plain56 _ _ _ _) ?_
  rintro t23 S23 rfl
  refine AWL.buildSlice1 rfl rfl (B rfl) rfl el_43 rfl (evsC (E rfl rfl) evs0) (Nat.le_of_ble_eq_true rfl) rfl rfl ?_
  refine AWL.callT rfl rfl (B rfl) rfl ce_48 (E rfl rfl) (evsC (E rfl rfl) (evsC (E rfl rfl) (evsC (E rfl rfl) (evsC (E rfl rfl) evs0)))) (plain56 _ _ _ _) ?_
  rintro t25 S25 rfl
  refine AWL.buildSlice1 rfl rfl (B rfl) rfl el_43 rfl (evsC (E rfl rfl) evs0) (Nat.le_of_ble_eq_true rfl) rfl rfl ?_
  refine AWL.callT rfl rfl (B rfl) rfl ce_48 (E rfl rfl) (evsC (E rfl rfl) (evsC (E rfl rfl) (evsC (E rfl rfl) (evsC (E rfl rfl) evs0)))) (plain56 _ _ _ _) ?_
  rintro t27 S27 rfl
  refine AWL.buildSlice1 rfl rfl (B rfl) rfl el_43 rfl (evsC (E rfl rfl) evs0) (Nat.le_of_ble_eq_true rfl) rfl rfl ?_
  refine AWL.callT rfl rfl (B rfl) rfl ce_48 (E rfl rfl) (evsC (E rfl rfl) (evsC (E rfl rfl) (evsC (E rfl rfl) (evsC (E rfl rfl) evs0)))) (plain56 _ _ _ _) ?_
  rintro t29 S29 rfl
  refine AWL.buildSlice1 rfl rfl (B rfl) rfl el_43 rfl (evsC (E rfl rfl) evs0) (Nat.le_of_ble_eq_true rfl) rfl rfl ?_
  refine AWL.callT rfl rfl (B rfl) rfl ce_48 (E rfl rfl) (evsC (E rfl rfl) (evsC (E rfl rfl) (evsC (E rfl rfl) (evsC (E rfl rfl) evs0)))) (plain56 _ _ _ _) ?_
  rintro t31 S31 rfl
  refine AWL.buildSlice1 rfl rfl (B rfl) rfl el_43 rfl (evsC (E rfl rfl) evs0) (Nat.le_of_ble_eq_true rfl) rfl rfl ?_
  refine AWL.callT rfl rfl (B rfl) rfl ce_48 (E rfl rfl) (evsC (E rfl rfl) (evsC (E rfl rfl) (evsC (E rfl rfl) (evsC (E rfl rfl) evs0)))) (plain56 _ _ _ _) ?_
  rintro t33 S33 rfl
  refine AWL.buildSlice1 rfl rfl (B rfl) rfl el_43 rfl (evsC (E rfl rfl) evs0) (Nat.le_of_ble_eq_true rfl) rfl rfl ?_
  refine AWL.callT rfl rfl (B rfl) rfl ce_48 (E rfl rfl) (evsC (E rfl rfl) (evsC (E rfl rfl) (evsC (E rfl rfl) (evsC (E rfl rfl) evs0)))) (plain56 _ _ _ _) ?_
  rintro t35 S35 rfl
  refine AWL.buildSlice1 rfl rfl (B rfl) rfl el_43 rfl (evsC (E rfl rfl) evs0) (Nat.le_of_ble_eq_true rfl) rfl rfl ?_
  refine AWL.callT rfl rfl (B rfl) rfl ce_48 (E rfl rfl) (evsC (E rfl rfl) (evsC (E rfl rfl) (evsC (E rfl rfl) (evsC (E rfl rfl) evs0)))) (plain56 _ _ _ _) ?_
  rintro t37 S37 rfl
  refine AWL.callT rfl rfl (B rfl) rfl ce_49 (E rfl rfl) (evsC (E rfl rfl) (evsC (E rfl rfl) (evsC (E rfl rfl) (evsC (E rfl rfl) evs0)))) (digit57 _ _ _ _) ?_
  rintro t38 S38 rfl
  refine AWL.callT rfl rfl (B rfl) rfl ce_49 (E rfl rfl) (evsC (E rfl rfl) (evsC (E rfl rfl) (evsC (E rfl rfl) (evsC (E rfl rfl) evs0)))) (digit57 _ _ _ _) ?_
  rintro t39 S39 rfl
  refine AWL.callT rfl rfl (B rfl) rfl ce_49 (E rfl rfl) (evsC (E rfl rfl) (evsC (E rfl rfl) (evsC (E rfl rfl) (evsC (E rfl rfl) evs0)))) (digit57 _ _ _ _) ?_
  rintro t40 S40 rfl
  refine AWL.callT rfl rfl (B rfl) rfl ce_49 (E rfl rfl) (evsC (E rfl rfl) (evsC (E rfl rfl) (evsC (E rfl rfl) (evsC (E rfl rfl) evs0)))) (digit57 _ _ _ _) ?_
  rintro t41 S41 rfl
  refine AWL.callT rfl rfl (B rfl) rfl ce_49 (E rfl rfl) (evsC (E rfl rfl) (evsC (E rfl rfl) (evsC (E rfl rfl) (evsC (E rfl rfl) evs0)))) (digit57 _ _ _ _) ?_
  rintro t42 S42 rfl
  refine AWL.callT rfl rfl (B rfl) rfl ce_49 (E rfl rfl) (evsC (E rfl rfl) (evsC (E rfl rfl) (evsC (E rfl rfl) (evsC (E rfl rfl) evs0)))) (digit57 _ _ _ _) ?_
  rintro t43 S43 rfl
  refine AWL.buildSlice1 rfl rfl (B rfl) rfl el_43 rfl (evsC (E rfl rfl) (evsC (E rfl rfl) evs0)) (Nat.le_of_ble_eq_true rfl) rfl rfl ?_
  refine AWL.callT rfl rfl (B rfl) rfl ce_48 (E rfl rfl) (evsC (E rfl rfl) (evsC (E rfl rfl) (evsC (E rfl rfl) (evsC (E rfl rfl) evs0)))) (plain56 _ _ _ _) ?_
  rintro t45 S45 rfl
  refine AWL.callT rfl rfl (B rfl) rfl ce_49 (E rfl rfl) (evsC (E rfl rfl) (evsC (E rfl rfl) (evsC (E rfl rfl) (evsC (E rfl rfl) evs0)))) (digit57 _ _ _ _) ?_
  rintro t46 S46 rfl
  refine AWL.callT rfl rfl (B rfl) rfl ce_49 (E rfl rfl) (evsC (E rfl rfl) (evsC (E rfl rfl) (evsC (E rfl rfl) (evsC (E rfl rfl) evs0)))) (digit57 _ _ _ _) ?_
  rintro t47 S47 rfl
  refine AWL.callT rfl rfl (B rfl) rfl ce_49 (E rfl rfl) (evsC (E rfl rfl) (evsC (E rfl rfl) (evsC (E rfl rfl) (evsC (E rfl rfl) evs0)))) (digit57 _ _ _ _) ?_
  rintro t48 S48 rfl
  refine AWL.callT rfl rfl (B rfl) rfl ce_49 (E rfl rfl) (evsC (E rfl rfl) (evsC (E rfl rfl) (evsC (E rfl rfl) (evsC (E rfl rfl) evs0)))) (digit57 _ _ _ _) ?_
  rintro t49 S49 rfl
  refine AWL.callT rfl rfl (B rfl) rfl ce_49 (E rfl rfl) (evsC (E rfl rfl) (evsC (E rfl rfl) (evsC (E rfl rfl) (evsC (E rfl rfl) evs0)))) (digit57 _ _ _ _) ?_
  rintro t50 S50 rfl
  refine AWL.callT rfl rfl (B rfl) rfl ce_49 (E rfl rfl) (evsC (E rfl rfl) (evsC (E rfl rfl) (evsC (E rfl rfl) (evsC (E rfl rfl) evs0)))) (digit57 _ _ _ _) ?_
  rintro t51 S51 rfl
  refine AWL.callT rfl rfl (B rfl) rfl ce_49 (E rfl rfl) (evsC (E rfl rfl) (evsC (E rfl rfl) (evsC (E rfl rfl) (evsC (E rfl rfl) evs0)))) (digit57 _ _ _ _) ?_
  rintro t52 S52 rfl
  refine AWL.callT rfl rfl (B rfl) rfl ce_49 (E rfl rfl) (evsC (E rfl rfl) (evsC (E rfl rfl) (evsC (E rfl rfl) (evsC (E rfl rfl) evs0)))) (digit57 _ _ _ _) ?_
  rintro t53 S53 rfl
  refine AWL.callT rfl rfl (B rfl) rfl ce_49 (E rfl rfl) (evsC (E rfl rfl) (evsC (E rfl rfl) (evsC (E rfl rfl) (evsC (E rfl rfl) evs0)))) (digit57 _ _ _ _) ?_
  rintro t54 S54 rfl
  refine AWL.callT rfl rfl (B rfl) rfl ce_49 (E rfl rfl) (evsC (E rfl rfl) (evsC (E rfl rfl) (evsC (E rfl rfl) (evsC (E rfl rfl) evs0)))) (digit57 _ _ _ _) ?_
  rintro t55 S55 rfl
  refine AWL.buildSlice1 rfl rfl (B rfl) rfl el_43 rfl (evsC (E rfl rfl) (evsC (E rfl rfl) evs0)) (Nat.le_of_ble_eq_true rfl) rfl rfl ?_
  refine Y1 (Yv.buildS (cs := [.v (.int .i64 (32)), .v (.int .i64 (0)), .v (.int .i64 (0)), .v (.bool true), .v (.int .i64 (0)), .sl 1 [.v (.int .i64 15), .v (.int .i64 144)], .v (.int .i64 (3)), .v (.int .i64 (0)), .v (.int .i64 (2)), .v (.int .i64 (0)), .v (.int .i64 (4)), .v (.int .i64 (0))]) rfl sh_45 (evpC (E rfl rfl) (evpC (E rfl rfl) (evpC (E rfl rfl) (evpC (E rfl rfl) (evpC (E rfl rfl) (evpC (E rfl rfl) evp0)))))) (fun _ => by kernel_rfl)) ?_
  refine AWL.buildSlice1 rfl rfl (B rfl) rfl el_43 rfl (evsC (E rfl rfl) (evsC (E rfl rfl) evs0)) (Nat.le_of_ble_eq_true rfl) rfl rfl ?_
  refine AWL.callT rfl rfl (B rfl) rfl ce_48 (E rfl rfl) (evsC (E rfl rfl) (evsC (E rfl rfl) (evsC (E rfl rfl) (evsC (E rfl rfl) evs0)))) (plain56 _ _ _ _) ?_
  rintro t59 S59 rfl
  refine AWL.buildSlice1 rfl rfl (B rfl) rfl el_43 rfl (evsC (E rfl rfl) (evsC (E rfl rfl) evs0)) (Nat.le_of_ble_eq_true rfl) rfl rfl ?_
  refine Y1 (Yv.buildS (cs := [.v (.int .i64 (34)), .v (.int .i64 (0)), .v (.int .i64 (0)), .v (.bool true), .v (.int .i64 (1)), .sl 1 [.v (.int .i64 15), .v (.int .i64 64)], .v (.int .i64 (3)), .v (.int .i64 (0)), .v (.int .i64 (1)), .v (.int .i64 (2)), .v (.int .i64 (4)), .v (.int .i64 (0))]) rfl sh_45 (evpC (E rfl rfl) (evpC (E rfl rfl) (evpC (E rfl rfl) (evpC (E rfl rfl) (evpC (E rfl rfl) (evpC (E rfl rfl) (evpC (E rfl rfl) (evpC (E rfl rfl) evp0)))))))) (fun _ => by kernel_rfl)) ?_
  refine AWL.buildSlice1 rfl rfl (B rfl) rfl el_43 rfl (evsC (E rfl rfl) evs0) (Nat.le_of_ble_eq_true rfl) rfl rfl ?_
  refine Y1 (Yv.buildS (cs := [.v (.int .i64 (35)), .v (.int .i64 (1)), .v (.int .i64 (0)), .v (.bool false), .v (.int .i64 (0)), .sl 1 [.v (.int .i64 235)], .v (.int .i64 (-1)), .v (.int .i64 (0)), .v (.int .i64 (0)), .v (.int .i64 (0)), .v (.int .i64 (0)), .v (.int .i64 (5))]) rfl sh_45 (evpC (E rfl rfl) (evpC (E rfl rfl) (evpC (E rfl rfl) (evpC (E rfl rfl) (evpC (E rfl rfl) evp0))))) (fun _ => by kernel_rfl)) ?_
  refine AWL.buildSlice1 rfl rfl (B rfl) rfl el_43 rfl (evsC (E rfl rfl) evs0) (Nat.le_of_ble_eq_true rfl) rfl rfl ?_
  refine Y1 (Yv.buildS (cs := [.v (.int .i64 (35)), .v (.int .i64 (4)), .v (.int .i64 (0)), .v (.bool false), .v (.int .i64 (0)), .sl 1 [.v (.int .i64 233)], .v (.int .i64 (-1)), .v (.int .i64 (0)), .v (.int .i64 (0)), .v (.int .i64 (0)), .v (.int .i64 (0)), .v (.int .i64 (6))]) rfl sh_45 (evpC (E rfl rfl) (evpC (E rfl rfl) (evpC (E rfl rfl) (evpC (E rfl rfl) (evpC (E rfl rfl) evp0))))) (fun _ => by kernel_rfl)) ?_
  refine AWL.buildSlice1 rfl rfl (B rfl) rfl el_43 rfl (evsC (E rfl rfl) evs0) (Nat.le_of_ble_eq_true rfl) rfl rfl ?_
  refine Y1 (Yv.buildS (cs := [.v (.int .i64 (36)), .v (.int .i64 (1)), .v (.int .i64 (0)), .v (.bool false), .v (.int .i64 (0)), .sl 1 [.v (.int .i64 112)], .v (.int .i64 (-1)), .v (.int .i64 (0)), .v (.int .i64 (0)), .v (.int .i64 (0)), .v (.int .i64 (4)), .v (.int .i64 (5))]) rfl sh_45 (evpC (E rfl rfl) (evpC (E rfl rfl) (evpC (E rfl rfl) (evpC (E rfl rfl) (evpC (E rfl rfl) (evpC (E rfl rfl) evp0)))))) (fun _ => by kernel_rfl)) ?_
  refine AWL.buildSlice1 rfl rfl (B rfl) rfl el_43 rfl (evsC (E rfl rfl) (evsC (E rfl rfl) evs0)) (Nat.le_of_ble_eq_true rfl) rfl rfl ?_
  refine Y1 (Yv.buildS (cs := [.v (.int .i64 (36)), .v (.int .i64 (4)), .v (.int .i64 (0)), .v (.bool false), .v (.int .i64 (0)), .sl 1 [.v (.int .i64 15), .v (.int .i64 128)], .v (.int .i64 (-1)), .v (.int .i64 (0)), .v (.int .i64 (0)), .v (.int .i64 (0)), .v (.int .i64 (4)), .v (.int .i64 (6))]) rfl sh_45 (evpC (E rfl rfl) (evpC (E rfl rfl) (evpC (E rfl rfl) (evpC (E rfl rfl) (evpC (E rfl rfl) (evpC (E rfl rfl) evp0)))))) (fun _ => by kernel_rfl)) ?_
  refine AWL.buildSlice1 rfl rfl (B rfl) rfl el_43 rfl (evsC (E rfl rfl) evs0) (Nat.le_of_ble_eq_true rfl) rfl rfl ?_
  refine Y1 (Yv.buildS (cs := [.v (.int .i64 (37)), .v (.int .i64 (0)), .v (.int .i64 (0)), .v (.bool false), .v (.int .i64 (0)), .sl 1 [.v (.int .i64 232)], .v (.int .i64 (-1)), .v (.int .i64 (0)), .v (.int .i64 (0)), .v (.int .i64 (0)), .v (.int .i64 (0)), .v (.int .i64 (6))]) rfl sh_45 (evpC (E rfl rfl) (evpC (E rfl rfl) (evpC (E rfl rfl) (evpC (E rfl rfl) evp0)))) (fun _ => by kernel_rfl)) ?_
  refine AWL.buildSlice1 rfl rfl (B rfl) rfl el_43 rfl (evsC (E rfl rfl) evs0) (Nat.le_of_ble_eq_true rfl) rfl rfl ?_
  refine Y1 (Yv.buildS (cs := [.v (.int .i64 (38)), .v (.int .i64 (0)), .v (.int .i64 (0)), .v (.bool true), .v (.int .i64 (0)), .sl 1 [.v (.int .i64 255)], .v (.int .i64 (3)), .v (.int .i64 (2)), .v (.int .i64 (2)), .v (.int .i64 (0)), .v (.int .i64 (0)), .v (.int .i64 (0))]) rfl sh_45 (evpC (E rfl rfl) (evpC (E rfl rfl) (evpC (E rfl rfl) (evpC (E rfl rfl) (evpC (E rfl rfl) (evpC (E rfl rfl) evp0)))))) (fun _ => by kernel_rfl)) ?_
  refine AWL.buildSlice1 rfl rfl (B rfl) rfl el_43 rfl (evsC (E rfl rfl) evs0) (Nat.le_of_ble_eq_true rfl) rfl rfl ?_
  refine Y1 (Yv.buildS (cs := [.v (.int .i64 (39)), .v (.int .i64 (0)), .v (.int .i64 (0)), .v (.bool true), .v (.int .i64 (0)), .sl 1 [.v (.int .i64 255)], .v (.int .i64 (3)), .v (.int .i64 (4)), .v (.int .i64 (2)), .v (.int .i64 (0)), .v (.int .i64 (0)), .v (.int .i64 (0))]) rfl sh_45 (evpC (E rfl rfl) (evpC (E rfl rfl) (evpC (E rfl rfl) (evpC (E rfl rfl) (evpC (E rfl rfl) (evpC (E rfl rfl) evp0)))))) (fun _ => by kernel_rfl)) ?_
  refine AWL.buildSlice1 rfl rfl (B rfl) rfl el_43 rfl (evsC (E rfl rfl) evs0) (Nat.le_of_ble_eq_true rfl) rfl rfl ?_
  refine Y1 (Yv.buildS (cs := [.v (.int .i64 (40)), .v (.int .i64 (0)), .v (.int .i64 (0)), .v (.bool false), .v (.int .i64 (0)), .sl 1 [.v (.int .i64 195)], .v (.int .i64 (-1)), .v (.int .i64 (0)), .v (.int .i64 (0)), .v (.int .i64 (0)), .v (.int .i64 (0)), .v (.int .i64 (0))]) rfl sh_45 (evpC (E rfl rfl) (evpC (E rfl rfl) (evpC (E rfl rfl) evp0))) (fun _ => by kernel_rfl)) ?_
  refine AWL.buildSlice1 rfl rfl (B rfl) rfl el_43 rfl (evsC (E rfl rfl) evs0) (Nat.le_of_ble_eq_true rfl) rfl rfl ?_
  refine Y1 (Yv.buildS (cs := [.v (.int .i64 (41)), .v (.int .i64 (0)), .v (.int .i64 (0)), .v (.bool true), .v (.int .i64 (0)), .sl 1 [.v (.int .i64 80)], .v (.int .i64 (-1)), .v (.int .i64 (0)), .v (.int .i64 (3)), .v (.int .i64 (0)), .v (.int .i64 (0)), .v (.int .i64 (0))]) rfl sh_45 (evpC (E rfl rfl) (evpC (E rfl rfl) (evpC (E rfl rfl) (evpC (E rfl rfl) (evpC (E rfl rfl) evp0))))) (fun _ => by kernel_rfl)) ?_
  refine AWL.buildSlice1 rfl rfl (B rfl) rfl el_43 rfl (evsC (E rfl rfl) evs0) (Nat.le_of_ble_eq_true rfl) rfl rfl ?_
  refine Y1 (Yv.buildS (cs := [.v (.int .i64 (42)), .v (.int .i64 (0)), .v (.int .i64 (0)), .v (.bool true), .v (.int .i64 (0)), .sl 1 [.v (.int .i64 88)], .v (.int .i64 (-1)), .v (.int .i64 (0)), .v (.int .i64 (3)), .v (.int .i64 (0)), .v (.int .i64 (0)), .v (.int .i64 (0))]) rfl sh_45 (evpC (E rfl rfl) (evpC (E rfl rfl) (evpC (E rfl rfl) (evpC (E rfl rfl) (evpC (E rfl rfl) evp0))))) (fun _ => by kernel_rfl)) ?_
  refine AWL.buildSlice1 rfl rfl (B rfl) rfl el_43 rfl (evsC (E rfl rfl) (evsC (E rfl rfl) evs0)) (Nat.le_of_ble_eq_true rfl) rfl rfl ?_
  refine Y1 (Yv.buildS (cs := [.v (.int .i64 (43)), .v (.int .i64 (0)), .v (.int .i64 (0)), .v (.bool false), .v (.int .i64 (0)), .sl 1 [.v (.int .i64 15), .v (.int .i64 5)], .v (.int .i64 (-1)), .v (.int .i64 (0)), .v (.int .i64 (0)), .v (.int .i64 (0)), .v (.int .i64 (0)), .v (.int .i64 (0))]) rfl sh_45 (evpC (E rfl rfl) (evpC (E rfl rfl) (evpC (E rfl rfl) evp0))) (fun _ => by kernel_rfl)) ?_
  refine AWL.buildSlice1 rfl rfl (B rfl) rfl el_43 rfl (evsC (E rfl rfl) (evsC (E rfl rfl) evs0)) (Nat.le_of_ble_eq_true rfl) rfl rfl ?_
  refine Y1 (Yv.buildS (cs := [.v (.int .i64 (44)), .v (.int .i64 (0)), .v (.int .i64 (0)), .v (.bool false), .v (.int .i64 (0)), .sl 1 [.v (.int .i64 15), .v (.int .i64 11)], .v (.int .i64 (-1)), .v (.int .i64 (0)), .v (.int .i64 (0)), .v (.int .i64 (0)), .v (.int .i64 (0)), .v (.int .i64 (0))]) rfl sh_45 (evpC (E rfl rfl) (evpC (E rfl rfl) (evpC (E rfl rfl) evp0))) (fun _ => by kernel_rfl)) ?_
  refine AWL.callT rfl rfl (B rfl) rfl ce_51 (E rfl rfl) (evsC (E rfl rfl) (evsC (E rfl rfl) (evsC (E rfl rfl) (evsC (E rfl rfl) (evsC (E rfl rfl) (evsC (E rfl rfl) evs0)))))) (real59 _ _ _ _ _ _) ?_
  rintro t86 S86 rfl
  refine AWL.callT rfl rfl (B rfl) rfl ce_51 (E rfl rfl) (evsC (E rfl rfl) (evsC (E rfl rfl) (evsC (E rfl rfl) (evsC (E rfl rfl) (evsC (E rfl rfl) (evsC (E rfl rfl) evs0)))))) (real59 _ _ _ _ _ _) ?_
  rintro t87 S87 rfl
  refine AWL.callT rfl rfl (B rfl) rfl ce_51 (E rfl rfl) (evsC (E rfl rfl) (evsC (E rfl rfl) (evsC (E rfl rfl) (evsC (E rfl rfl) (evsC (E rfl rfl) (evsC (E rfl rfl) evs0)))))) (real59 _ _ _ _ _ _) ?_
  rintro t88 S88 rfl
  refine AWL.callT rfl rfl (B rfl) rfl ce_51 (E rfl rfl) (evsC (E rfl rfl) (evsC (E rfl rfl) (evsC (E rfl rfl) (evsC (E rfl rfl) (evsC (E rfl rfl) (evsC (E rfl rfl) evs0)))))) (real59 _ _ _ _ _ _) ?_
  rintro t89 S89 rfl
  refine AWL.callT rfl rfl (B rfl) rfl ce_51 (E rfl rfl) (evsC (E rfl rfl) (evsC (E rfl rfl) (evsC (E rfl rfl) (evsC (E rfl rfl) (evsC (E rfl rfl) (evsC (E rfl rfl) evs0)))))) (real59 _ _ _ _ _ _) ?_
  rintro t90 S90 rfl
  refine AWL.callT rfl rfl (B rfl) rfl ce_51 (E rfl rfl) (evsC (E rfl rfl) (evsC (E rfl rfl) (evsC (E rfl rfl) (evsC (E rfl rfl) (evsC (E rfl rfl) (evsC (E rfl rfl) evs0)))))) (real59 _ _ _ _ _ _) ?_
  rintro t91 S91 rfl
  refine AWL.callT rfl rfl (B rfl) rfl ce_51 (E rfl rfl) (evsC (E rfl rfl) (evsC (E rfl rfl) (evsC (E rfl rfl) (evsC (E rfl rfl) (evsC (E rfl rfl) (evsC (E rfl rfl) evs0)))))) (real59 _ _ _ _ _ _) ?_
  rintro t92 S92 rfl
  refine AWL.callT rfl rfl (B rfl) rfl ce_51 (E rfl rfl) (evsC (E rfl rfl) (evsC (E rfl rfl) (evsC (E rfl rfl) (evsC (E rfl rfl) (evsC (E rfl rfl) (evsC (E rfl rfl) evs0)))))) (real59 _ _ _ _ _ _) ?_
  rintro t93 S93 rfl
  refine AWL.buildSliceE rfl rfl (B rfl) rfl el_41 (B rfl) rfl (evsC (E rfl rfl) (evsC (E rfl rfl) (evsC (E rfl rfl) (evsC (E rfl rfl) (evsC (E rfl rfl) (evsC (E rfl rfl) (evsC (E rfl rfl) (evsC (E rfl rfl) (evsC (E rfl rfl) (evsC (E rfl rfl) (evsC (E rfl rfl) (evsC (E rfl rfl) (evsC (E rfl rfl) (evsC (E rfl rfl) (evsC (E rfl rfl) (evsC (E rfl rfl) (evsC (E rfl rfl) (evsC (E rfl rfl) (evsC (E rfl rfl) (evsC (E rfl rfl) (evsC (E rfl rfl) (evsC (E rfl rfl) (evsC (E rfl rfl) (evsC (E rfl rfl) (evsC (E rfl rfl) (evsC (E rfl rfl) (evsC (E rfl rfl) (evsC (E rfl rfl) (evsC (E rfl rfl) (evsC (E rfl rfl) (evsC (E rfl rfl) (evsC (E rfl rfl) (evsC (E rfl rfl) (evsC (E rfl rfl) (evsC (E rfl rfl) (evsC (E rfl rfl) (evsC (E rfl rfl) (evsC (E rfl rfl) (evsC (E rfl rfl) (evsC (E rfl rfl) (evsC (E rfl rfl) (evsC (E rfl rfl) (evsC (E rfl rfl) (evsC (E rfl rfl) (evsC (E rfl rfl) (evsC (E rfl rfl) (evsC (E rfl rfl) (evsC (E rfl rfl) (evsC (E rfl rfl) (evsC (E rfl rfl) (evsC (E rfl rfl) (evsC (E rfl rfl) (evsC (E rfl rfl) (evsC (E rfl rfl) (evsC (E rfl rfl) (evsC (E rfl rfl) (evsC (E rfl rfl) (evsC (E rfl rfl) (evsC (E rfl rfl) evs0))))))))))))))))))))))))))))))))))))))))))))))))))))))))))) (Nat.le_of_ble_eq_true rfl) rfl rfl ?_
  refine Y1 (Yv.assign rfl eV) ?_
  refine nl ?_
  refine AW.ret (retI (.tmp rfl .nil) ?_)
  rfl

end Go.Proofs.YtjndpakhmgapjaaDoor

namespace Go.Proofs.YtjndpakhmgapjaaDoor
open Go Go.RowKit
set_option linter.unusedVariables false
set_option linter.unnecessarySimpa false
set_option linter.unusedSimpArgs false

set_option maxHeartbeats 4000000 in
theorem bytes62 (f : FormF) (i : Ins) (hf : FormOk f) (hd : 0 ≤ i.d ∧ i.d ≤ 15) (hs : 0 ≤ i.s ∧ i.s ≤ 15) (hc : 0 ≤ i.cond ∧ i.cond ≤ 15) :
    ACalls Tryd.prog 25 [formT f, insT i] [] fun t_ S => t_ = u8s (bytesF f i) := by
  have hu := at_range (f := f) hd hs 1
  have hb2 := at_range (f := f) hd hs 2
  have hb3 := at_range (f := f) hd hs 3
  obtain ⟨hf1, hf2, hf3, hf4, hf5, hf6⟩ := hf
  obtain ⟨hl0, hl1, hl2, hl3, hl4⟩ := bits_len f i
  have hbase : baseF f i = atF f i 2 + atF f i 3 := rfl
  have hupf : upF f i = atF f i 1 := rfl
  have hrx : 0 ≤ regX f i ∧ regX f i ≤ 7 := by
    unfold regX
    split <;> omega
  have hsz := sizeR_le f.imm
  refine ACalls.intro Tryd.func25 rfl Tryd.ntmps25 (Nat.le_of_ble_eq_true rfl) rfl fun X w0 => ?_
  refine AW.rseq ?_
  refine AWL.boxOp rfl rfl (B rfl) rfl (E rfl rfl) rfl (fun b2 => ?_)
  refine AWL.boxOp rfl rfl (B rfl) rfl (E rfl rfl) rfl (fun b3 => ?_)
  refine Y1 (Yv.assign rfl eV) ?_
  refine nl ?_
  refine AW.rseq ?_
  refine Y1 (Yv.assign rfl eV) ?_
  refine nl ?_
  refine AW.rowNil 5 1 ?_
  refine AW.mid (α := Option Addr × Nat) (fun q => [(2, true, .v (.pointer (some ⟨b2, 0, none⟩))), (3, true, .v (.pointer (some ⟨b3, 0, none⟩))), (5, true, .v (.slice q.1 (r0 f).length q.2))]) (fun q => [.box b2 45 (formCells f), .box b3 23 (insCells i), Ent.row q.1 (r0 f).length q.2 5 1 ((r0 f).map u8)]) (fun _ => True) ?_ ?_
  ·
   refine AW.rseq ?_
   refine Y1 (Yv.fieldBox rfl fo_45_2 eV) ?_
   refine Y1 (Yv.loadBox rfl ag_3 (i := 0) rfl (E rfl rfl) rfl) ?_
   refine Y1 (Yv.gtr rfl eV eV) ?_
   refine nl ?_
   refine AW.cond rfl (fun h0t => ?_) (fun h0f => ?_)
   ·
    try replace h0t := of_decide_eq_true h0t
    refine AW.region ?_
    refine Y1 (Yv.move rfl eV) ?_
    refine Y1 (Yv.fieldBox rfl fo_45_2 eV) ?_
    refine Y1 (Yv.loadBox rfl ag_3 (i := 0) rfl (E rfl rfl) rfl) ?_
    refine Y1 (Yv.conv rfl Tryd.underlying3 kd_5 (E rfl rfl)) ?_
    refine AWL.buildSlice1 rfl rfl (B rfl) rfl el_24 rfl (evsC (E rfl rfl) evs0) (Nat.le_of_ble_eq_true rfl) rfl rfl ?_
    refine AWL.appendRow (i := 2) rfl rfl (B rfl) rfl el_24 (B rfl) rfl (E rfl rfl) (SrcT.sl so_24 (B rfl) (E rfl rfl) rfl) (by unfold maxLen; omega) (by omega) (fun A22 c22 => ?_)
    refine Y1 (Yv.assign rfl eV) ?_
    refine nl ?_
    obtain ⟨hL, hM⟩ := r0_yes h0t
    refine ⟨⟨A22, c22⟩, trivial, (Sub.cons rfl rfl (Sub.cons rfl rfl (Sub.cons rfl (by rw [hL] <;> rfl) Sub.nil))), ?_⟩
    rw [hL, hM]
    rfl
   try replace h0f := of_decide_eq_false h0f
   refine AW.skip ?_
   have hN := r0_no h0f
   refine ⟨⟨none, 0⟩, trivial, (Sub.cons rfl rfl (Sub.cons rfl rfl (Sub.cons rfl (by rw [hN] <;> rfl) Sub.nil))), ?_⟩
   rw [hN] <;> rfl
  ·
   rintro ⟨A, c⟩ hmid
   refine AW.rseq ?_
   refine Y1 (Yv.loadBoxA rfl ag_45 (i := 0) rfl (E rfl rfl) rfl rfl) ?_
   refine Y1 (Yv.loadBoxA rfl ag_23 (i := 1) rfl (E rfl rfl) rfl rfl) ?_
   refine AWL.callT rfl rfl (B rfl) rfl ce_54 (E rfl rfl) (evsC (E rfl rfl) (evsC (E rfl rfl) (evsC (E rfl rfl) evs0))) (at71 f i 1) ?_
   rintro t25 S25 rfl
   refine Y1 (Yv.assign rfl eV) ?_
   refine nl ?_
   refine AW.mid (α := Unit) (fun _ => [(2, true, .v (.pointer (some ⟨b2, 0, none⟩))), (3, true, .v (.pointer (some ⟨b3, 0, none⟩))), (5, true, .v (.slice A (r0 f).length c)), (6, true, .v (.int .i64 (upF f i))), (7, true, .v (.int .i64 (baseF f i)))]) (fun _ => [.box b2 45 (formCells f), .box b3 23 (insCells i), Ent.row A (r0 f).length c 5 1 ((r0 f).map u8)]) (fun _ => True) ?_ ?_
   ·
    refine AW.regionH (HeldBox b3 (insVals i)) rfl (tells_box (k := 1) rfl) ?_
    refine AWH.tk (i := 1) rfl rfl rfl (B rfl) (heldLoadA rfl ag_23 (E rfl rfl) rfl rfl rfl rfl) ?_
    refine AWH.tk (i := 4) rfl rfl rfl (B rfl) (heldLoadA rfl ag_23 (E rfl rfl) rfl rfl rfl rfl) ?_
    refine AWH.two (i := 0) (j := 3) (by kernel_rfl) rfl rfl ?_ ?_
    ·
     refine Y1 (Yv.loadBoxA rfl ag_45 (i := 0) rfl (E rfl rfl) rfl rfl) ?_
     refine tb 1 rfl ?_
     refine AWH.two (i := 2) (j := 3) (by kernel_rfl) rfl rfl ?_ ?_
     ·
      refine AWL.callP rfl rfl (B rfl) rfl ce_54 (E rfl rfl) (evsC (E rfl rfl) (evsC (E rfl rfl) (evsC (E rfl rfl) evs0))) (at71 f i 2) (fun t S h => h) ?_
      refine tb 1 rfl ?_
      refine AWH.one (i := 3) (by kernel_rfl) rfl ?_
      refine Y1 (Yv.loadBoxA rfl ag_45 (i := 0) rfl (E rfl rfl) rfl rfl) ?_
      refine tb 1 rfl ?_
      refine AWH.one (i := 5) (by kernel_rfl) rfl ?_
      refine AWL.callP rfl rfl (B rfl) rfl ce_54 (E rfl rfl) (evsC (E rfl rfl) (evsC (E rfl rfl) (evsC (E rfl rfl) evs0))) (at71 f i 3) (fun t S h => h) ?_
      refine tb 1 rfl ?_
      refine AWH.one (i := 6) (by kernel_rfl) rfl ?_
      refine Y1 (Yv.addN_i64 rfl (E rfl rfl) (E rfl rfl) (fun hg => by omega)) ?_
      refine tb 1 rfl ?_
      refine AWH.one (i := 7) (by kernel_rfl) rfl ?_
      refine Y1 (Yv.assign rfl eV) ?_
      refine tb 1 rfl ?_
      refine AWH.done (by kernel_rfl) ?_
      exact ⟨(), trivial, (Sub.cons rfl rfl (Sub.cons rfl rfl (Sub.cons rfl rfl (Sub.cons rfl rfl (Sub.cons rfl rfl Sub.nil))))), rfl⟩
     ·
      refine Y1 (Yv.loadBoxA rfl ag_45 (i := 0) rfl (E rfl rfl) rfl rfl) ?_
      refine tb 1 rfl ?_
      refine AWH.one (i := 2) (by kernel_rfl) rfl ?_
      refine AWL.callP rfl rfl (B rfl) rfl ce_54 (E rfl rfl) (evsC (E rfl rfl) (evsC (E rfl rfl) (evsC (E rfl rfl) evs0))) (at71 f i 2) (fun t S h => h) ?_
      refine tb 1 rfl ?_
      refine AWH.one (i := 5) (by kernel_rfl) rfl ?_
      refine AWL.callP rfl rfl (B rfl) rfl ce_54 (E rfl rfl) (evsC (E rfl rfl) (evsC (E rfl rfl) (evsC (E rfl rfl) evs0))) (at71 f i 3) (fun t S h => h) ?_
      refine tb 1 rfl ?_
      refine AWH.one (i := 6) (by kernel_rfl) rfl ?_
      refine Y1 (Yv.addN_i64 rfl (E rfl rfl) (E rfl rfl) (fun hg => by omega)) ?_
      refine tb 1 rfl ?_
      refine AWH.one (i := 7) (by kernel_rfl) rfl ?_
      refine Y1 (Yv.assign rfl eV) ?_
      refine tb 1 rfl ?_
      refine AWH.done (by kernel_rfl) ?_
      exact ⟨(), trivial, (Sub.cons rfl rfl (Sub.cons rfl rfl (Sub.cons rfl rfl (Sub.cons rfl rfl (Sub.cons rfl rfl Sub.nil))))), rfl⟩
    ·
     refine Y1 (Yv.loadBoxA rfl ag_45 (i := 0) rfl (E rfl rfl) rfl rfl) ?_
     refine tb 1 rfl ?_
     refine AWH.one (i := 0) (by kernel_rfl) rfl ?_
     refine Y1 (Yv.loadBoxA rfl ag_45 (i := 0) rfl (E rfl rfl) rfl rfl) ?_
     refine tb 1 rfl ?_
     refine AWH.one (i := 2) (by kernel_rfl) rfl ?_
     refine AWL.callP rfl rfl (B rfl) rfl ce_54 (E rfl rfl) (evsC (E rfl rfl) (evsC (E rfl rfl) (evsC (E rfl rfl) evs0))) (at71 f i 2) (fun t S h => h) ?_
     refine tb 1 rfl ?_
     refine AWH.one (i := 5) (by kernel_rfl) rfl ?_
     refine AWL.callP rfl rfl (B rfl) rfl ce_54 (E rfl rfl) (evsC (E rfl rfl) (evsC (E rfl rfl) (evsC (E rfl rfl) evs0))) (at71 f i 3) (fun t S h => h) ?_
     refine tb 1 rfl ?_
     refine AWH.one (i := 6) (by kernel_rfl) rfl ?_
     refine Y1 (Yv.addN_i64 rfl (E rfl rfl) (E rfl rfl) (fun hg => by omega)) ?_
     refine tb 1 rfl ?_
     refine AWH.one (i := 7) (by kernel_rfl) rfl ?_
     refine Y1 (Yv.assign rfl eV) ?_
     refine tb 1 rfl ?_
     refine AWH.done (by kernel_rfl) ?_
     exact ⟨(), trivial, (Sub.cons rfl rfl (Sub.cons rfl rfl (Sub.cons rfl rfl (Sub.cons rfl rfl (Sub.cons rfl rfl Sub.nil))))), rfl⟩
   ·
    rintro _ hmid
    refine AW.mid (α := Option Addr × Nat) (fun q => [(2, true, .v (.pointer (some ⟨b2, 0, none⟩))), (3, true, .v (.pointer (some ⟨b3, 0, none⟩))), (5, true, .v (.slice q.1 (r1 f i).length q.2)), (6, true, .v (.int .i64 (upF f i))), (7, true, .v (.int .i64 (baseF f i)))]) (fun q => [.box b2 45 (formCells f), .box b3 23 (insCells i), Ent.row q.1 (r1 f i).length q.2 5 1 ((r1 f i).map u8)]) (fun _ => True) ?_ ?_
    ·
     refine AW.rseq ?_
     refine Y1 (Yv.fieldBox rfl fo_45_3 eV) ?_
     refine Y1 (Yv.loadBox rfl ag_4 (i := 0) rfl (E rfl rfl) rfl) ?_
     refine nl ?_
     refine AW.cond rfl (fun h1t => ?_) (fun h1f => ?_)
     ·
      try replace h1t := of_decide_eq_true h1t
      refine AW.region ?_
      refine Y1 (Yv.move rfl eV) ?_
      refine Y1 (Yv.fieldBox rfl fo_45_4 eV) ?_
      refine Y1 (Yv.loadBox rfl ag_3 (i := 0) rfl (E rfl rfl) rfl) ?_
      refine Y1 (Yv.mulN_i64 rfl (E rfl rfl) (E rfl rfl) (fun hg => by omega)) ?_
      refine Y1 (Yv.addN_i64 rfl (E rfl rfl) (E rfl rfl) (fun hg => by omega)) ?_
      refine Y1 (Yv.move rfl eV) ?_
      refine Y1 (Yv.quoN_i64 rfl (E rfl rfl) (E rfl rfl) (fun hg => by omega)) ?_
      refine Y1 (Yv.mulN_i64 rfl (E rfl rfl) (E rfl rfl) (fun hg => by omega)) ?_
      refine Y1 (Yv.addN_i64 rfl (E rfl rfl) (E rfl rfl) (fun hg => by omega)) ?_
      refine Y1 (Yv.move rfl eV) ?_
      refine Y1 (Yv.quoN_i64 rfl (E rfl rfl) (E rfl rfl) (fun hg => by omega)) ?_
      refine Y1 (Yv.addN_i64 rfl (E rfl rfl) (E rfl rfl) (fun hg => by omega)) ?_
      refine Y1 (Yv.conv rfl Tryd.underlying3 kd_5 (E rfl rfl)) ?_
      refine AWL.buildSlice1 rfl rfl (B rfl) rfl el_24 rfl (evsC (E rfl rfl) evs0) (Nat.le_of_ble_eq_true rfl) rfl rfl ?_
      refine AWL.appendRow (i := 2) rfl rfl (B rfl) rfl el_24 (B rfl) rfl (E rfl rfl) (SrcT.sl so_24 (B rfl) (E rfl rfl) rfl) (by unfold maxLen; omega) (by omega) (fun A49 c49 => ?_)
      refine Y1 (Yv.assign rfl eV) ?_
      refine nl ?_
      obtain ⟨hL, hM⟩ := r1_yes (i := i) h1t
      refine ⟨⟨A49, c49⟩, trivial, (Sub.cons rfl rfl (Sub.cons rfl rfl (Sub.cons rfl (by rw [hL] <;> rfl) (Sub.cons rfl rfl (Sub.cons rfl rfl Sub.nil))))), ?_⟩
      rw [hL, hM]
      rfl
     try replace h1f := of_decide_eq_false h1f
     refine AW.skip ?_
     have hN := r1_no (i := i) (ne_true_of_eq_false h1f)
     refine ⟨⟨A, c⟩, trivial, (Sub.cons rfl rfl (Sub.cons rfl rfl (Sub.cons rfl (by rw [hN]) (Sub.cons rfl rfl (Sub.cons rfl rfl Sub.nil))))), ?_⟩
     rw [hN] <;> rfl
    ·
     rintro ⟨A, c⟩ hmid
     refine AW.seq ?_
     refine AW.rseq ?_
     refine Y1 (Yv.assign rfl eV) ?_
     refine nl ?_
     refine AW.block ?_
     refine AW.loop3 (fun (j : Nat) (Ao : Option Addr) (co : Nat) => [(2, true, .v (.pointer (some ⟨b2, 0, none⟩))), (3, true, .v (.pointer (some ⟨b3, 0, none⟩))), (5, true, .v (.slice Ao (r2 f i j).length co)), (6, true, .v (.int .i64 (upF f i))), (7, true, .v (.int .i64 (baseF f i))), (8, true, .v (.int .i64 (j : Int)))]) (fun (j : Nat) (Ao : Option Addr) (co : Nat) => [.box b2 45 (formCells f), .box b3 23 (insCells i), Ent.row Ao (r2 f i j).length co 5 1 ((r2 f i j).map u8)]) (fun (j : Nat) (Ao : Option Addr) (co : Nat) => j ≤ f.op.length) (fun (j : Nat) (Ao : Option Addr) (co : Nat) => f.op.length - j) 0 A c ?_ ?_ ?_ ?_
     · exact Nat.zero_le _
     · exact (Sub.cons rfl rfl (Sub.cons rfl rfl (Sub.cons rfl (by rw [r2_zero]) (Sub.cons rfl rfl (Sub.cons rfl rfl (Sub.cons rfl rfl Sub.nil))))))
     · rw [r2_zero]
     ·
      intro j Ao co hinv
      have hlj := hl2 j
      refine AW.seq ?_
      refine AW.rseq ?_
      refine Y1 (Yv.move rfl eV) ?_
      refine Y1 (Yv.fieldBox rfl fo_45_5 eV) ?_
      refine Y1 (Yv.loadBox rfl ag_43 (i := 0) rfl (E rfl rfl) rfl) ?_
      refine Y1 (Yv.lenSl rfl so_43 (B rfl) (E rfl rfl) len_ints) ?_
      refine Y1 (Yv.lss rfl eV eV) ?_
      refine nl ?_
      refine AW.cond rfl (fun h2t => ?_) (fun h2f => ?_)
      ·
       try replace h2t := of_decide_eq_true h2t
       have hjl : j < f.op.length := by omega
       obtain ⟨ho1, ho2, ho3, ho4⟩ := opX_range (i := i) ⟨hf1, hf2, hf3, hf4, hf5, hf6⟩ hc hjl
       refine AW.skip ?_
       refine AW.seq ?_
       refine AW.block ?_
       refine AW.rseq ?_
       refine Y1 (Yv.fieldBox rfl fo_45_5 eV) ?_
       refine Y1 (Yv.loadBox rfl ag_43 (i := 0) rfl (E rfl rfl) rfl) ?_
       refine Y1 (Yv.move rfl eV) ?_
       refine Y1 (Yv.indexSl rfl ss_43 (B rfl) (E rfl rfl) (E rfl rfl) (fun hg => ⟨rfl, (by first | omega | (simp only [len_ints, len_u8s]; omega))⟩)) ?_
       refine Y1 (Yv.loadRp rfl ag_3 (E rfl rfl) (fun hg => ints_get (by omega))) ?_
       refine Y1 (Yv.assign rfl eV) ?_
       refine nl ?_
       refine AW.mid (α := Unit) (fun _ => [(2, true, .v (.pointer (some ⟨b2, 0, none⟩))), (3, true, .v (.pointer (some ⟨b3, 0, none⟩))), (5, true, .v (.slice Ao (r2 f i j).length co)), (6, true, .v (.int .i64 (upF f i))), (7, true, .v (.int .i64 (baseF f i))), (8, true, .v (.int .i64 (j : Int))), (9, true, .v (.int .i64 (opX f i j)))]) (fun _ => [.box b2 45 (formCells f), .box b3 23 (insCells i), Ent.row Ao (r2 f i j).length co 5 1 ((r2 f i j).map u8)]) (fun _ => True) ?_ ?_
       ·
        refine AW.rseq ?_
        refine Y1 (Yv.move rfl eV) ?_
        refine Y1 (Yv.fieldBox rfl fo_45_5 eV) ?_
        refine Y1 (Yv.loadBox rfl ag_43 (i := 0) rfl (E rfl rfl) rfl) ?_
        refine Y1 (Yv.lenSl rfl so_43 (B rfl) (E rfl rfl) len_ints) ?_
        refine Y1 (Yv.subN_i64 rfl (E rfl rfl) (E rfl rfl) (fun hg => by omega)) ?_
        refine Y1 (Yv.eql rfl eV eV) ?_
        refine Y1 (Yv.move rfl eV) ?_
        refine AWL.ygT rfl rfl rfl rfl (B rfl) (Yv.fieldBox rfl fo_45_10 (E rfl rfl)) ?_
        refine AWL.ygT rfl rfl rfl rfl (B rfl) (Yv.loadBox rfl ag_3 (i := 0) rfl (Eg rfl rfl id) rfl) ?_
        refine AWL.ygT rfl rfl rfl rfl (B rfl) (Yv.eql rfl (Eg rfl rfl id) (E rfl rfl)) ?_
        refine Y1 (Yv.pickAnd rfl (E rfl rfl) (Eg rfl rfl id)) ?_
        refine nl ?_
        refine AW.cond rfl (fun h3t => ?_) (fun h3f => ?_)
        ·
         try replace h3t := of_decide_eq_true h3t
         refine AW.region ?_
         refine Y1 (Yv.move rfl eV) ?_
         refine Y1 (Yv.fieldBox rfl fo_23_3 eV) ?_
         refine Y1 (Yv.loadBox rfl ag_3 (i := 1) rfl (E rfl rfl) rfl) ?_
         refine Y1 (Yv.addN_i64 rfl (E rfl rfl) (E rfl rfl) (fun hg => by omega)) ?_
         refine Y1 (Yv.assign rfl eV) ?_
         refine nl ?_
         refine ⟨(), trivial, (Sub.cons rfl rfl (Sub.cons rfl rfl (Sub.cons rfl rfl (Sub.cons rfl rfl (Sub.cons rfl rfl (Sub.cons rfl rfl (Sub.cons rfl (by rw [opX, if_pos h3t]) Sub.nil))))))), rfl⟩
        try replace h3f := of_decide_eq_false h3f
        refine AW.skip ?_
        refine ⟨(), trivial, (Sub.cons rfl rfl (Sub.cons rfl rfl (Sub.cons rfl rfl (Sub.cons rfl rfl (Sub.cons rfl rfl (Sub.cons rfl rfl (Sub.cons rfl (by rw [opX, if_neg (ne_true_of_eq_false h3f), Int.add_zero]) Sub.nil))))))), rfl⟩
       ·
        rintro _ hmid
        refine AW.mid (α := Unit) (fun _ => [(2, true, .v (.pointer (some ⟨b2, 0, none⟩))), (3, true, .v (.pointer (some ⟨b3, 0, none⟩))), (5, true, .v (.slice Ao (r2 f i j).length co)), (6, true, .v (.int .i64 (upF f i))), (7, true, .v (.int .i64 (baseF f i))), (8, true, .v (.int .i64 (j : Int))), (9, true, .v (.int .i64 (opY f i j)))]) (fun _ => [.box b2 45 (formCells f), .box b3 23 (insCells i), Ent.row Ao (r2 f i j).length co 5 1 ((r2 f i j).map u8)]) (fun _ => True) ?_ ?_
        ·
         refine AW.rseq ?_
         refine Y1 (Yv.move rfl eV) ?_
         refine Y1 (Yv.fieldBox rfl fo_45_5 eV) ?_
         refine Y1 (Yv.loadBox rfl ag_43 (i := 0) rfl (E rfl rfl) rfl) ?_
         refine Y1 (Yv.lenSl rfl so_43 (B rfl) (E rfl rfl) len_ints) ?_
         refine Y1 (Yv.subN_i64 rfl (E rfl rfl) (E rfl rfl) (fun hg => by omega)) ?_
         refine Y1 (Yv.eql rfl eV eV) ?_
         refine Y1 (Yv.move rfl eV) ?_
         refine AWL.ygT rfl rfl rfl rfl (B rfl) (Yv.fieldBox rfl fo_45_8 (E rfl rfl)) ?_
         refine AWL.ygT rfl rfl rfl rfl (B rfl) (Yv.loadBox rfl ag_3 (i := 0) rfl (Eg rfl rfl id) rfl) ?_
         refine AWL.ygT rfl rfl rfl rfl (B rfl) (Yv.eql rfl (Eg rfl rfl id) (E rfl rfl)) ?_
         refine Y1 (Yv.pickAnd rfl (E rfl rfl) (Eg rfl rfl id)) ?_
         refine nl ?_
         refine AW.cond rfl (fun h4t => ?_) (fun h4f => ?_)
         ·
          try replace h4t := of_decide_eq_true h4t
          refine AW.region ?_
          refine Y1 (Yv.move rfl eV) ?_
          refine Y1 (Yv.fieldBox rfl fo_23_1 eV) ?_
          refine Y1 (Yv.loadBox rfl ag_3 (i := 1) rfl (E rfl rfl) rfl) ?_
          refine Y1 (Yv.remN rfl (E rfl rfl) (E rfl rfl) (fun hg => by omega)) ?_
          refine Y1 (Yv.addN_i64 rfl (E rfl rfl) (E rfl rfl) (fun hg => by omega)) ?_
          refine Y1 (Yv.assign rfl eV) ?_
          refine nl ?_
          refine ⟨(), trivial, (Sub.cons rfl rfl (Sub.cons rfl rfl (Sub.cons rfl rfl (Sub.cons rfl rfl (Sub.cons rfl rfl (Sub.cons rfl rfl (Sub.cons rfl (by rw [opY, if_pos h4t]) Sub.nil))))))), rfl⟩
         try replace h4f := of_decide_eq_false h4f
         refine AW.skip ?_
         refine ⟨(), trivial, (Sub.cons rfl rfl (Sub.cons rfl rfl (Sub.cons rfl rfl (Sub.cons rfl rfl (Sub.cons rfl rfl (Sub.cons rfl rfl (Sub.cons rfl (by rw [opY, if_neg (ne_true_of_eq_false h4f), Int.add_zero]) Sub.nil))))))), rfl⟩
        ·
         rintro _ hmid
         refine AW.region ?_
         refine Y1 (Yv.move rfl eV) ?_
         refine Y1 (Yv.move rfl eV) ?_
         refine Y1 (Yv.conv rfl Tryd.underlying3 kd_5 (E rfl rfl)) ?_
         refine AWL.buildSlice1 rfl rfl (B rfl) rfl el_24 rfl (evsC (E rfl rfl) evs0) (Nat.le_of_ble_eq_true rfl) rfl rfl ?_
         refine AWL.appendRow (i := 2) rfl rfl (B rfl) rfl el_24 (B rfl) rfl (E rfl rfl) (SrcT.sl so_24 (B rfl) (E rfl rfl) rfl) (by unfold maxLen; omega) (by omega) (fun A97 c97 => ?_)
         refine Y1 (Yv.assign rfl eV) ?_
         refine nl ?_
         refine AW.region ?_
         refine Y1 (Yv.move rfl eV) ?_
         refine Y1 (Yv.addN_i64 rfl (E rfl rfl) (E rfl rfl) (fun hg => by omega)) ?_
         refine Y1 (Yv.assign rfl eV) ?_
         refine nl ?_
         obtain ⟨hL, hM⟩ := r2_next f i j
         refine ⟨j + 1, A97, c97, by omega, by omega, Sub.cons rfl rfl (Sub.cons rfl rfl (Sub.cons rfl (by rw [hL] <;> rfl) (Sub.cons rfl rfl (Sub.cons rfl rfl (Sub.cons rfl (by simp) Sub.nil))))), ?_⟩
         rw [hL, hM]
         rfl
      try replace h2f := of_decide_eq_false h2f
      refine AW.exit ?_
      refine AW.mid (α := Option Addr × Nat) (fun q => [(2, true, .v (.pointer (some ⟨b2, 0, none⟩))), (3, true, .v (.pointer (some ⟨b3, 0, none⟩))), (5, true, .v (.slice q.1 (r3 f i).length q.2)), (6, true, .v (.int .i64 (upF f i))), (7, true, .v (.int .i64 (baseF f i)))]) (fun q => [.box b2 45 (formCells f), .box b3 23 (insCells i), Ent.row q.1 (r3 f i).length q.2 5 1 ((r3 f i).map u8)]) (fun _ => True) ?_ ?_
      ·
       obtain rfl : j = f.op.length := by omega
       refine AW.rseq ?_
       refine Y1 (Yv.fieldBox rfl fo_45_6 eV) ?_
       refine Y1 (Yv.loadBox rfl ag_3 (i := 0) rfl (E rfl rfl) rfl) ?_
       refine Y1 (Yv.geq rfl eV eV) ?_
       refine nl ?_
       refine AW.cond rfl (fun h5t => ?_) (fun h5f => ?_)
       ·
        try replace h5t := of_decide_eq_true h5t
        refine AW.rseq ?_
        refine Y1 (Yv.move rfl eV) ?_
        refine Y1 (Yv.remN rfl (E rfl rfl) (E rfl rfl) (fun hg => by omega)) ?_
        refine Y1 (Yv.assign rfl eV) ?_
        refine nl ?_
        refine AW.mid (α := Unit) (fun _ => [(2, true, .v (.pointer (some ⟨b2, 0, none⟩))), (3, true, .v (.pointer (some ⟨b3, 0, none⟩))), (5, true, .v (.slice Ao (r2 f i f.op.length).length co)), (6, true, .v (.int .i64 (upF f i))), (7, true, .v (.int .i64 (baseF f i))), (10, true, .v (.int .i64 (regX f i)))]) (fun _ => [.box b2 45 (formCells f), .box b3 23 (insCells i), Ent.row Ao (r2 f i f.op.length).length co 5 1 ((r2 f i f.op.length).map u8)]) (fun _ => True) ?_ ?_
        ·
         refine AW.rseq ?_
         refine Y1 (Yv.fieldBox rfl fo_45_8 eV) ?_
         refine Y1 (Yv.loadBox rfl ag_3 (i := 0) rfl (E rfl rfl) rfl) ?_
         refine Y1 (Yv.neq rfl eV eV) ?_
         refine Y1 (Yv.move rfl eV) ?_
         refine AWL.ygT rfl rfl rfl rfl (B rfl) (Yv.fieldBox rfl fo_45_9 (E rfl rfl)) ?_
         refine AWL.ygT rfl rfl rfl rfl (B rfl) (Yv.loadBox rfl ag_3 (i := 0) rfl (Eg rfl rfl id) rfl) ?_
         refine AWL.ygT rfl rfl rfl rfl (B rfl) (Yv.neq rfl (Eg rfl rfl id) (E rfl rfl)) ?_
         refine Y1 (Yv.pickAnd rfl (E rfl rfl) (Eg rfl rfl id)) ?_
         refine nl ?_
         refine AW.cond rfl (fun h6t => ?_) (fun h6f => ?_)
         ·
          try replace h6t := of_decide_eq_true h6t
          refine AW.region ?_
          refine Y1 (Yv.fieldBox rfl fo_45_7 eV) ?_
          refine Y1 (Yv.loadBox rfl ag_3 (i := 0) rfl (E rfl rfl) rfl) ?_
          refine Y1 (Yv.assign rfl eV) ?_
          refine nl ?_
          refine ⟨(), trivial, (Sub.cons rfl rfl (Sub.cons rfl rfl (Sub.cons rfl rfl (Sub.cons rfl rfl (Sub.cons rfl rfl (Sub.cons rfl (by rw [regX, if_pos h6t]) Sub.nil)))))), rfl⟩
         try replace h6f := of_decide_eq_false h6f
         refine AW.skip ?_
         refine ⟨(), trivial, (Sub.cons rfl rfl (Sub.cons rfl rfl (Sub.cons rfl rfl (Sub.cons rfl rfl (Sub.cons rfl rfl (Sub.cons rfl (by rw [regX, if_neg (ne_true_of_eq_false h6f)]) Sub.nil)))))), rfl⟩
        ·
         rintro _ hmid
         refine AW.rseq ?_
         refine Y1 (Yv.move rfl eV) ?_
         refine Y1 (Yv.fieldBox rfl fo_45_6 eV) ?_
         refine Y1 (Yv.loadBox rfl ag_3 (i := 0) rfl (E rfl rfl) rfl) ?_
         refine Y1 (Yv.mulN_i64 rfl (E rfl rfl) (E rfl rfl) (fun hg => by omega)) ?_
         refine Y1 (Yv.move rfl eV) ?_
         refine Y1 (Yv.mulN_i64 rfl (E rfl rfl) (E rfl rfl) (fun hg => by omega)) ?_
         refine Y1 (Yv.addN_i64 rfl (E rfl rfl) (E rfl rfl) (fun hg => by omega)) ?_
         refine Y1 (Yv.move rfl eV) ?_
         refine Y1 (Yv.remN rfl (E rfl rfl) (E rfl rfl) (fun hg => by omega)) ?_
         refine Y1 (Yv.addN_i64 rfl (E rfl rfl) (E rfl rfl) (fun hg => by omega)) ?_
         refine Y1 (Yv.conv rfl Tryd.underlying3 kd_5 (E rfl rfl)) ?_
         refine AWL.buildSlice1 rfl rfl (B rfl) rfl el_24 rfl (evsC (E rfl rfl) evs0) (Nat.le_of_ble_eq_true rfl) rfl rfl ?_
         refine AWL.appendRow (i := 2) rfl rfl (B rfl) rfl el_24 (B rfl) rfl (E rfl rfl) (SrcT.sl so_24 (B rfl) (E rfl rfl) rfl) (by unfold maxLen; omega) (by omega) (fun A125 c125 => ?_)
         refine Y1 (Yv.assign rfl eV) ?_
         refine nl ?_
         refine AW.rseq ?_
         refine Y1 (Yv.fieldBox rfl fo_45_6 eV) ?_
         refine Y1 (Yv.loadBox rfl ag_3 (i := 0) rfl (E rfl rfl) rfl) ?_
         refine Y1 (Yv.eql rfl eV eV) ?_
         refine Y1 (Yv.move rfl eV) ?_
         refine AWL.ygT rfl rfl rfl rfl (B rfl) (Yv.move rfl (E rfl rfl)) ?_
         refine AWL.ygT rfl rfl rfl rfl (B rfl) (Yv.remN rfl (Eg rfl rfl id) (E rfl rfl) (fun hg => by first | omega | (simp only [Bool.and_eq_true, Bool.or_eq_false_iff, Bool.not_eq_true', Bool.not_eq_false', decide_eq_true_eq, decide_eq_false_iff_not] at hg; omega))) ?_
         refine AWL.ygT rfl rfl rfl rfl (B rfl) (Yv.eql rfl (Eg rfl rfl id) (E rfl rfl)) ?_
         refine Y1 (Yv.pickAnd rfl (E rfl rfl) (Eg rfl rfl id)) ?_
         refine nl ?_
         refine AW.cond rfl (fun h7t => ?_) (fun h7f => ?_)
         ·
          try replace h7t := of_decide_eq_true h7t
          refine AW.region ?_
          refine Y1 (Yv.move rfl eV) ?_
          refine AWL.buildSlice1 rfl rfl (B rfl) rfl el_24 rfl (evsC (E rfl rfl) evs0) (Nat.le_of_ble_eq_true rfl) rfl rfl ?_
          refine AWL.appendRow (i := 2) rfl rfl (B rfl) rfl el_24 (B rfl) rfl (E rfl rfl) (SrcT.sl so_24 (B rfl) (E rfl rfl) rfl) (by unfold maxLen; omega) (by omega) (fun A136 c136 => ?_)
          refine Y1 (Yv.assign rfl eV) ?_
          refine nl ?_
          obtain ⟨hL, hM⟩ := r3_yes h5t h7t
          refine ⟨⟨A136, c136⟩, trivial, (Sub.cons rfl rfl (Sub.cons rfl rfl (Sub.cons rfl (by rw [hL] <;> rfl) (Sub.cons rfl rfl (Sub.cons rfl rfl Sub.nil))))), ?_⟩
          rw [hL, hM]
          rfl
         try replace h7f := of_decide_eq_false h7f
         refine AW.skip ?_
         obtain ⟨hL, hM⟩ := r3_one h5t (ne_true_of_eq_false h7f)
         refine ⟨⟨A125, c125⟩, trivial, (Sub.cons rfl rfl (Sub.cons rfl rfl (Sub.cons rfl (by rw [hL] <;> rfl) (Sub.cons rfl rfl (Sub.cons rfl rfl Sub.nil))))), ?_⟩
         rw [hL, hM]
         rfl
       try replace h5f := of_decide_eq_false h5f
       refine AW.skip ?_
       have hN := r3_no (i := i) h5f
       refine ⟨⟨Ao, co⟩, trivial, (Sub.cons rfl rfl (Sub.cons rfl rfl (Sub.cons rfl (by rw [hN]) (Sub.cons rfl rfl (Sub.cons rfl rfl Sub.nil))))), ?_⟩
       rw [hN] <;> rfl
      ·
       rintro ⟨A, c⟩ hmid
       refine AW.rseq ?_
       refine Y1 (Yv.assign rfl eV) ?_
       refine nl ?_
       refine AW.mid (α := Option Addr × Nat) (fun q => [(2, true, .v (.pointer (some ⟨b2, 0, none⟩))), (3, true, .v (.pointer (some ⟨b3, 0, none⟩))), (5, true, .v (.slice q.1 (r3 f i).length q.2)), (11, true, .v (.int .i64 (sizeR f.imm : Int)))]) (fun q => [.box b2 45 (formCells f), .box b3 23 (insCells i), Ent.row q.1 (r3 f i).length q.2 5 1 ((r3 f i).map u8)]) (fun _ => True) ?_ ?_
       ·
        refine AW.rseq ?_
        refine Y1 (Yv.fieldBox rfl fo_45_11 eV) ?_
        refine Y1 (Yv.loadBox rfl ag_3 (i := 0) rfl (E rfl rfl) rfl) ?_
        refine nl ?_
        refine AW.block ?_
        refine AW.rseq ?_
        refine Y1 (Yv.eql rfl eV eV) ?_
        refine Y1 (Yv.assign rfl eV) ?_
        refine nl ?_
        refine AW.cond rfl (fun h8t => ?_) (fun h8f => ?_)
        ·
         try replace h8t := of_decide_eq_true h8t
         refine AW.region ?_
         refine Y1 (Yv.assign rfl eV) ?_
         refine nl ?_
         refine ⟨⟨A, c⟩, trivial, (Sub.cons rfl rfl (Sub.cons rfl rfl (Sub.cons rfl rfl (Sub.cons rfl (by rw [sizeR, if_pos h8t]; rfl) Sub.nil)))), rfl⟩
        try replace h8f := of_decide_eq_false h8f
        refine AW.rseq ?_
        refine Y1 (Yv.eql rfl eV eV) ?_
        refine Y1 (Yv.assign rfl eV) ?_
        refine nl ?_
        refine AW.cond rfl (fun h9t => ?_) (fun h9f => ?_)
        ·
         try replace h9t := of_decide_eq_true h9t
         refine AW.region ?_
         refine Y1 (Yv.assign rfl eV) ?_
         refine nl ?_
         refine ⟨⟨A, c⟩, trivial, (Sub.cons rfl rfl (Sub.cons rfl rfl (Sub.cons rfl rfl (Sub.cons rfl (by rw [sizeR, if_neg h8f, if_pos h9t]; rfl) Sub.nil)))), rfl⟩
        try replace h9f := of_decide_eq_false h9f
        refine AW.rseq ?_
        refine Y1 (Yv.eql rfl eV eV) ?_
        refine Y1 (Yv.assign rfl eV) ?_
        refine nl ?_
        refine AW.cond rfl (fun h10t => ?_) (fun h10f => ?_)
        ·
         try replace h10t := of_decide_eq_true h10t
         refine AW.region ?_
         refine Y1 (Yv.assign rfl eV) ?_
         refine nl ?_
         refine ⟨⟨A, c⟩, trivial, (Sub.cons rfl rfl (Sub.cons rfl rfl (Sub.cons rfl rfl (Sub.cons rfl (by rw [sizeR, if_neg h8f, if_neg h9f, if_pos h10t]; rfl) Sub.nil)))), rfl⟩
        try replace h10f := of_decide_eq_false h10f
        refine AW.skip ?_
        refine ⟨⟨A, c⟩, trivial, (Sub.cons rfl rfl (Sub.cons rfl rfl (Sub.cons rfl rfl (Sub.cons rfl (by rw [sizeR, if_neg h8f, if_neg h9f, if_neg h10f]; rfl) Sub.nil)))), rfl⟩
       ·
        rintro ⟨A, c⟩ hmid
        refine AW.rseq ?_
        refine Y1 (Yv.fieldBox rfl fo_23_5 eV) ?_
        refine Y1 (Yv.loadBox rfl ag_2 (i := 1) rfl (E rfl rfl) rfl) ?_
        refine Y1 (Yv.conv rfl Tryd.underlying2 kd_78 (E rfl rfl)) ?_
        rw [IntKind.wrap_u64]
        refine Y1 (Yv.assign rfl eV) ?_
        refine nl ?_
        refine AW.seq ?_
        refine AW.rseq ?_
        refine Y1 (Yv.assign rfl eV) ?_
        refine nl ?_
        refine AW.block ?_
        refine AW.loop3 (fun (j : Nat) (Ao : Option Addr) (co : Nat) => [(2, true, .v (.pointer (some ⟨b2, 0, none⟩))), (3, true, .v (.pointer (some ⟨b3, 0, none⟩))), (5, true, .v (.slice Ao (r4 f i j).length co)), (11, true, .v (.int .i64 (sizeR f.imm : Int))), (12, true, .v (.int .u64 (i.imm % 18446744073709551616 / 256 ^ j))), (13, true, .v (.int .i64 (j : Int)))]) (fun (j : Nat) (Ao : Option Addr) (co : Nat) => [.box b2 45 (formCells f), .box b3 23 (insCells i), Ent.row Ao (r4 f i j).length co 5 1 ((r4 f i j).map u8)]) (fun (j : Nat) (Ao : Option Addr) (co : Nat) => j ≤ sizeR f.imm) (fun (j : Nat) (Ao : Option Addr) (co : Nat) => sizeR f.imm - j) 0 A c ?_ ?_ ?_ ?_
        · exact Nat.zero_le _
        · exact (Sub.cons rfl rfl (Sub.cons rfl rfl (Sub.cons rfl (by rw [r4_zero]) (Sub.cons rfl rfl (Sub.cons rfl (by simp) (Sub.cons rfl rfl Sub.nil))))))
        · rw [r4_zero]
        ·
         intro j Ao co hinv
         have hlj := hl4 j
         refine AW.seq ?_
         refine AW.rseq ?_
         refine Y1 (Yv.move rfl eV) ?_
         refine Y1 (Yv.move rfl eV) ?_
         refine Y1 (Yv.lss rfl eV eV) ?_
         refine nl ?_
         refine AW.cond rfl (fun h11t => ?_) (fun h11f => ?_)
         ·
          try replace h11t := of_decide_eq_true h11t
          refine AW.skip ?_
          refine AW.seq ?_
          refine AW.block ?_
          obtain ⟨hn0, hn1⟩ := imm_step i.imm j
          refine AW.rseq ?_
          refine Y1 (Yv.move rfl eV) ?_
          refine Y1 (Yv.move rfl eV) ?_
          refine Y1 (Yv.remN rfl (E rfl rfl) (E rfl rfl) (fun hg => by omega)) ?_
          refine Y1 (Yv.conv rfl Tryd.underlying78 kd_5 (E rfl rfl)) ?_
          refine AWL.buildSlice1 rfl rfl (B rfl) rfl el_24 rfl (evsC (E rfl rfl) evs0) (Nat.le_of_ble_eq_true rfl) rfl rfl ?_
          refine AWL.appendRow (i := 2) rfl rfl (B rfl) rfl el_24 (B rfl) rfl (E rfl rfl) (SrcT.sl so_24 (B rfl) (E rfl rfl) rfl) (by unfold maxLen; omega) (by omega) (fun A158 c158 => ?_)
          refine Y1 (Yv.assign rfl eV) ?_
          refine nl ?_
          refine AW.region ?_
          refine Y1 (Yv.move rfl eV) ?_
          refine Y1 (Yv.quoN_u64 rfl (E rfl rfl) (E rfl rfl) (fun hg => by omega)) ?_
          refine Y1 (Yv.assign rfl eV) ?_
          refine nl ?_
          refine AW.region ?_
          refine Y1 (Yv.move rfl eV) ?_
          refine Y1 (Yv.addN_i64 rfl (E rfl rfl) (E rfl rfl) (fun hg => by omega)) ?_
          refine Y1 (Yv.assign rfl eV) ?_
          refine nl ?_
          obtain ⟨hL, hM⟩ := r4_next f i j
          refine ⟨j + 1, A158, c158, by omega, by omega, Sub.cons rfl rfl (Sub.cons rfl rfl (Sub.cons rfl (by rw [hL] <;> rfl) (Sub.cons rfl rfl (Sub.cons rfl (by rw [div_succ]) (Sub.cons rfl (by simp) Sub.nil))))), ?_⟩
          rw [hL, hM]
          rfl
         try replace h11f := of_decide_eq_false h11f
         refine AW.exit ?_
         obtain rfl : j = sizeR f.imm := by omega
         refine AW.freeze 2 5 rfl (B rfl) rfl ?_
         refine AW.rseq ?_
         refine Y1 (Yv.move rfl eV) ?_
         refine Y1 (Yv.assign rfl eV) ?_
         refine nl ?_
         refine AW.ret (retI (.tmp rfl .nil) ?_)
         rfl

end Go.Proofs.YtjndpakhmgapjaaDoor

namespace Go.Proofs.YtjndpakhmgapjaaDoor
open Go Go.RowKit
set_option linter.unusedSimpArgs false
set_option linter.unusedVariables false
set_option linter.unnecessarySimpa false
def encT (i : Ins) : T := if validF i = true then u8s (encF i) else ofConst (.slice none 0 0)
def encE (i : Ins) : Int := if validF i = true then 0 else 200
def allB (l : List Ins) : List UInt8 := if l.all validF = true then l.flatMap encF else []
def allE (l : List Ins) : Int := if l.all validF = true then 0 else 200
theorem all_bad {l : List Ins} {j : Nat} (hj : j < l.length) (h : ¬ validF (l.getD j default) = true) : ¬ l.all validF = true := fun q => h (List.all_eq_true.1 q _ (getD_mem' hj))
theorem all_good {l : List Ins} (h : ∀ i, i < l.length → validF (l.getD i default) = true) : l.all validF = true := by
  rw [List.all_eq_true]
  intro x hx
  obtain ⟨i, hi, rfl⟩ := List.mem_iff_getElem.1 hx
  have := h i hi
  rwa [getD_eq' hi] at this
theorem enc_le (l : List Ins) : (l.flatMap encF).length ≤ 11 * l.length := by
  induction l with
  | nil => simp
  | cons a r ih => have := encF_len a; simp only [List.flatMap_cons, List.length_append, List.length_cons]; omega
theorem enc_step {l : List Ins} {j : Nat} (hj : j < l.length) : ((l.take (j + 1)).flatMap encF).length = ((l.take j).flatMap encF).length + (encF (l.getD j default)).length ∧ ((l.take (j + 1)).flatMap encF).map u8 = ((l.take j).flatMap encF).map u8 ++ (encF (l.getD j default)).map u8 := by
  rw [take_flat hj]
  simp
theorem ins_eq (i k : Ins) : eqCells (insVals i) (insVals k) [(0, .i), (1, .i), (2, .i), (3, .i), (4, .i), (5, .i)] = some (decide (i = k)) := by
  cases i; cases k
  simp [eqCells, insVals, eqCell, Ins.mk.injEq, Bool.decide_and, Bool.and_assoc]
end Go.Proofs.YtjndpakhmgapjaaDoor

namespace Go.Proofs.YtjndpakhmgapjaaDoor
open Go Go.RowKit
set_option linter.unusedSimpArgs false
set_option linter.unusedVariables false
set_option linter.unnecessarySimpa false
theorem valid_mk {i : Ins} (hb : bad0 i = false) (h : (noneF (fieldsF i.kind).1 1 i.d && noneF (fieldsF i.kind).1 2 i.s && noneF (fieldsF i.kind).1 4 i.imm && noneF (fieldsF i.kind).1 8 i.cond && noneF (fieldsF i.kind).1 16 i.size && sizedF i) = true) : validF i = true := by
  rw [validF, if_neg (by rw [hb]; decide)]; exact h
theorem none_any (f h n : Int) (hf : ¬ bitsOf .and .i64 f h = 0) : noneF f h n = true := by rw [noneF, decide_eq_false hf]; rfl
theorem none_zero (f h : Int) : noneF f h 0 = true := by rw [noneF, decide_eq_true rfl, Bool.or_true]
theorem inF_of {n a b : Int} (h1 : a ≤ n) (h2 : n ≤ b) : inF n a b = true := by rw [inF, decide_eq_true h1, decide_eq_true h2]; rfl
theorem imm_len (n : Int) (k : Nat) : (immF n k).length = k := by simp [immF, leBytes_length]
end Go.Proofs.YtjndpakhmgapjaaDoor
