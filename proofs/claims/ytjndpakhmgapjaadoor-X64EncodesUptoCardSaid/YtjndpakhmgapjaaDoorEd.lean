/-
  TEXTS JOINED: Wk4, Dec, Wk19.
-/
import Derived.Test.YtjndpakhmgapjaaDoorEc
set_option linter.unusedSimpArgs false
set_option linter.unusedVariables false
set_option linter.unusedSectionVars false
set_option linter.unnecessarySimpa false
namespace Go.Proofs.YtjndpakhmgapjaaDoor
open Go Go.RowKit
set_option linter.unusedVariables false
set_option linter.unnecessarySimpa false
set_option linter.unusedSimpArgs false

set_option maxRecDepth 2000 in
set_option maxHeartbeats 4000000 in
theorem encode19R (i : Ins) :
    ACalls Tryd.prog 11 [insT i] [] fun t_ S => if validF i = true then (∃ (A' : Option Addr) (r : List UInt8), t_ = .tup [.v (.slice A' (encF i).length ((encF i).length + r.length)), .v (.int .i64 0)] ∧ S = [Ent.row A' ((encF i).length + r.length) ((encF i).length + r.length) 5 1 ((encF i ++ r).map u8)]) else t_ = .tup [ofConst (.slice none 0 0), .v (.int .i64 200)] := by
  obtain ⟨r1, r2, r3⟩ := or_reg i.d
  refine ACalls.intro Tryd.func11 rfl Tryd.ntmps11 (Nat.le_of_ble_eq_true rfl) rfl fun X w0 => ?_
  refine AW.rseq ?_
  refine AWL.boxOp rfl rfl (B rfl) rfl (E rfl rfl) rfl (fun b1 => ?_)
  refine AWL.y rfl rfl (B rfl) (Yv.assign rfl (E rfl rfl)) ?_
  refine AWL.y rfl rfl (B rfl) (Yv.assign rfl (E rfl rfl)) ?_
  refine AWL.nil ?_
  refine AW.seq ?_
  refine AW.rseq ?_
  refine AWL.y rfl rfl (B rfl) (Yv.loadBoxA rfl ag_23 (i := 0) rfl (E rfl rfl) rfl rfl) ?_
  refine AWL.callP rfl rfl (B rfl) rfl ce_12 (E rfl rfl) (evsC (E rfl rfl) evs0) (valid27 i) (fun t S h => h) ?_
  refine AWL.y rfl rfl (B rfl) (Yv.not rfl (E rfl rfl)) ?_
  refine AWL.nil ?_
  refine AW.cond rfl (fun h0t => ?_) (fun h0f => ?_)
  ·
   try replace h0t := of_decide_eq_true h0t
   have hval : ¬ validF i = true := by simpa using h0t
   refine AW.rseq ?_
   refine AWL.y rfl rfl (B rfl) (Yv.assign rfl (E rfl rfl)) ?_
   refine AWL.y rfl rfl (B rfl) (Yv.assign rfl (E rfl rfl)) ?_
   refine AWL.nil ?_
   refine AW.ret (retI (.tmp rfl (.tmp rfl .nil)) ?_)
   rw [if_neg hval]
   rfl
  try replace h0f := of_decide_eq_false h0f
  have hval : validF i = true := by simpa using h0f
  obtain ⟨hkk, hd, hs, hc⟩ := validF_regs hval
  refine AW.skip ?_
  refine AW.rseq ?_
  refine AWL.y rfl rfl (B rfl) (Yv.buildS rfl sh_49 evp0 (fun _ => rfl)) ?_
  refine AWL.boxOp rfl rfl (B rfl) rfl (E rfl rfl) rfl (fun b11 => ?_)
  refine AWL.y rfl rfl (B rfl) (Yv.assign rfl (E rfl rfl)) ?_
  refine AWL.nil ?_
  refine AW.rowNil 5 1 ?_
  refine AW.perm (S' := CB b11 none [] [] ++ [.box b1 23 (insCells i)]) (List.reverse_perm [_, _, _]) ?_
  refine AW.rseq ?_
  refine AWL.y rfl rfl (B rfl) (Yv.fieldBox rfl fo_23_0 (E rfl rfl)) ?_
  refine AWL.y rfl rfl (B rfl) (Yv.loadBox rfl ag_3 (i := 2) rfl (E rfl rfl) rfl) ?_
  refine AWL.callT rfl rfl (B rfl) rfl ce_26 (E rfl rfl) (evsC (E rfl rfl) evs0) (opcode33 i.kind) ?_
  rintro t15 S15 rfl
  refine AWL.y rfl rfl (B rfl) (Yv.move rfl (E rfl rfl)) ?_
  refine AWL.y rfl rfl (B rfl) (Yv.extract rfl (E rfl rfl) rfl) ?_
  refine AWL.y rfl rfl (B rfl) (Yv.extract rfl (E rfl rfl) rfl) ?_
  refine AWL.y rfl rfl (B rfl) (Yv.assign rfl (E rfl rfl)) ?_
  refine AWL.y rfl rfl (B rfl) (Yv.assign rfl (E rfl rfl)) ?_
  refine AWL.nil ?_
  refine AW.seq ?_
  refine AW.rseq ?_
  refine AWL.y rfl rfl (B rfl) (Yv.fieldBox rfl fo_23_0 (E rfl rfl)) ?_
  refine AWL.y rfl rfl (B rfl) (Yv.loadBox rfl ag_3 (i := 2) rfl (E rfl rfl) rfl) ?_
  refine AWL.nil ?_
  refine AW.block ?_
  refine AW.seq ?_
  refine AW.rseq ?_
  refine AWL.y rfl rfl (B rfl) (Yv.eql rfl (E rfl rfl) (E rfl rfl)) ?_
  refine AWL.y rfl rfl (B rfl) (Yv.assign rfl (E rfl rfl)) ?_
  refine AWL.nil ?_
  refine AW.cond rfl (fun h1t => ?_) (fun h1f => ?_)
  ·
   try replace h1t := of_decide_eq_true h1t
   refine AW.skip ?_
   refine AW.cond rfl (fun h2t => ?_) (fun h2f => ?_)
   ·
    try replace h2t := of_decide_eq_true h2t
    refine AW.regionH (HeldBox b1 (insVals i)) rfl (tells_box (k := 2) rfl) ?_
    refine AWH.tk (i := 0) rfl rfl rfl (B rfl) (heldAll (freeMove rfl (E rfl rfl))) ?_
    refine AWH.tk (i := 1) rfl rfl rfl (B rfl) (heldAll (freeField rfl fo_23_2 (E rfl rfl))) ?_
    refine AWH.tk (i := 2) rfl rfl rfl (B rfl) (heldLoad rfl ag_3 (E rfl rfl) rfl) ?_
    refine AWH.tk (i := 3) rfl rfl rfl (B rfl) (heldAll (freeField rfl fo_23_1 (E rfl rfl))) ?_
    refine AWH.tk (i := 4) rfl rfl rfl (B rfl) (heldLoad rfl ag_3 (E rfl rfl) rfl) ?_
    refine AWH.tk (i := 6) rfl rfl rfl (B rfl) (heldAll (freeMove rfl (E rfl rfl))) ?_
    refine AWH.tk (i := 9) rfl rfl rfl (B rfl) (heldAll (freeField rfl fo_23_2 (E rfl rfl))) ?_
    refine AWH.tk (i := 10) rfl rfl rfl (B rfl) (heldLoad rfl ag_3 (E rfl rfl) rfl) ?_
    refine AWH.tk (i := 11) rfl rfl rfl (B rfl) (heldAll (freeField rfl fo_23_1 (E rfl rfl))) ?_
    refine AWH.tk (i := 12) rfl rfl rfl (B rfl) (heldLoad rfl ag_3 (E rfl rfl) rfl) ?_
    refine AWH.two (i := 5) (j := 7) (by kernel_rfl) rfl rfl ?_ ?_
    ·
     refine AWL.call rfl rfl (B rfl) rfl ce_27 (E rfl rfl) (evsC (E rfl rfl) (evsC (E rfl rfl) (evsC (E rfl rfl) (evsC (E rfl rfl) evs0)))) (S1 := CB _ _ _ _) (S2 := [_]) rfl (rex34 _ _ _ _ _ _ _) ?_
     rintro t39 S39 ⟨rfl, A39, c39, rfl⟩
     refine tb 2 rfl ?_
     refine AWH.one (i := 7) (by kernel_rfl) rfl ?_
     refine AWL.buildSlice1 rfl rfl (B rfl) rfl el_43 rfl (evsC (E rfl rfl) evs0) (Nat.le_of_ble_eq_true rfl) rfl rfl ?_
     refine tb 2 rfl ?_
     refine AWH.one (i := 8) (by kernel_rfl) rfl ?_
     refine AWL.call rfl rfl (B rfl) rfl ce_28 (E rfl rfl) (evsC (E rfl rfl) (evsC (E rfl rfl) evs0)) (S1 := CB _ _ _ _) (S2 := [_]) rfl (put35 _ _ _ _ [_]) ?_
     rintro t42 S42 ⟨rfl, A42, c42, rfl⟩
     refine tb 2 rfl ?_
     refine AWH.one (i := 13) (by kernel_rfl) rfl ?_
     refine AWL.call rfl rfl (B rfl) rfl ce_29 (E rfl rfl) (evsC (E rfl rfl) (evsC (E rfl rfl) (evsC (E rfl rfl) evs0))) (S1 := CB _ _ _ _) (S2 := [_]) rfl (two36 _ _ _ _ _ _) ?_
     rintro t47 S47 ⟨rfl, A47, c47, rfl⟩
     refine tb 2 rfl ?_
     refine AWH.done (by kernel_rfl) ?_
     refine AW.rseq ?_
     refine AWL.y rfl rfl (B rfl) (Yv.move rfl (E rfl rfl)) ?_
     refine AWL.y rfl rfl (B rfl) (Yv.nilChk rfl (E rfl rfl)) ?_
     refine AWL.y rfl rfl (B rfl) (Yv.fieldBox rfl fo_49_0 (E rfl rfl)) ?_
     refine AWL.y rfl rfl (B rfl) (Yv.loadBox rfl ag_24 (i := 1) rfl (E rfl rfl) rfl) ?_
     refine AWL.y rfl rfl (B rfl) (Yv.assign rfl (E rfl rfl)) ?_
     refine AWL.y rfl rfl (B rfl) (Yv.assign rfl (E rfl rfl)) ?_
     refine AWL.nil ?_
     refine AW.drop (List.take_sublist 1 _) ?_
     refine AW.ret (retI (.tmp rfl (.tmp rfl .nil)) ?_)
     rw [if_pos hval]
     refine enc_end ?_
     rw [enc0 (by rw [h1t]; rfl)]
     skip
     try simp only [List.append_assoc]
     rfl
    ·
     refine AWL.buildSlice1 rfl rfl (B rfl) rfl el_43 rfl (evsC (E rfl rfl) evs0) (Nat.le_of_ble_eq_true rfl) rfl rfl ?_
     refine tb 2 rfl ?_
     refine AWH.one (i := 5) (by kernel_rfl) rfl ?_
     refine AWL.call rfl rfl (B rfl) rfl ce_27 (E rfl rfl) (evsC (E rfl rfl) (evsC (E rfl rfl) (evsC (E rfl rfl) (evsC (E rfl rfl) evs0)))) (S1 := CB _ _ _ _) (S2 := [_]) rfl (rex34 _ _ _ _ _ _ _) ?_
     rintro t39 S39 ⟨rfl, A39, c39, rfl⟩
     refine tb 2 rfl ?_
     refine AWH.one (i := 8) (by kernel_rfl) rfl ?_
     refine AWL.call rfl rfl (B rfl) rfl ce_28 (E rfl rfl) (evsC (E rfl rfl) (evsC (E rfl rfl) evs0)) (S1 := CB _ _ _ _) (S2 := [_]) rfl (put35 _ _ _ _ [_]) ?_
     rintro t42 S42 ⟨rfl, A42, c42, rfl⟩
     refine tb 2 rfl ?_
     refine AWH.one (i := 13) (by kernel_rfl) rfl ?_
     refine AWL.call rfl rfl (B rfl) rfl ce_29 (E rfl rfl) (evsC (E rfl rfl) (evsC (E rfl rfl) (evsC (E rfl rfl) evs0))) (S1 := CB _ _ _ _) (S2 := [_]) rfl (two36 _ _ _ _ _ _) ?_
     rintro t47 S47 ⟨rfl, A47, c47, rfl⟩
     refine tb 2 rfl ?_
     refine AWH.done (by kernel_rfl) ?_
     refine AW.rseq ?_
     refine AWL.y rfl rfl (B rfl) (Yv.move rfl (E rfl rfl)) ?_
     refine AWL.y rfl rfl (B rfl) (Yv.nilChk rfl (E rfl rfl)) ?_
     refine AWL.y rfl rfl (B rfl) (Yv.fieldBox rfl fo_49_0 (E rfl rfl)) ?_
     refine AWL.y rfl rfl (B rfl) (Yv.loadBox rfl ag_24 (i := 1) rfl (E rfl rfl) rfl) ?_
     refine AWL.y rfl rfl (B rfl) (Yv.assign rfl (E rfl rfl)) ?_
     refine AWL.y rfl rfl (B rfl) (Yv.assign rfl (E rfl rfl)) ?_
     refine AWL.nil ?_
     refine AW.drop (List.take_sublist 1 _) ?_
     refine AW.ret (retI (.tmp rfl (.tmp rfl .nil)) ?_)
     rw [if_pos hval]
     refine enc_end ?_
     rw [enc0 (by rw [h1t]; rfl)]
     skip
     try simp only [List.append_assoc]
     rfl
   · exfalso; replace h2f := of_decide_eq_false h2f; omega
  try replace h1f := of_decide_eq_false h1f
  refine AW.rseq ?_
  refine AWL.y rfl rfl (B rfl) (Yv.eql rfl (E rfl rfl) (E rfl rfl)) ?_
  refine AWL.y rfl rfl (B rfl) (Yv.assign rfl (E rfl rfl)) ?_
  refine AWL.nil ?_
  refine AW.cond rfl (fun h3t => ?_) (fun h3f => ?_)
  ·
   try replace h3t := of_decide_eq_true h3t
   refine AW.skip ?_
   refine AW.cond rfl (fun h4t => ?_) (fun h4f => ?_)
   ·
    try replace h4t := of_decide_eq_true h4t
    refine AW.regionH (HeldBox b1 (insVals i)) rfl (tells_box (k := 2) rfl) ?_
    refine AWH.tk (i := 0) rfl rfl rfl (B rfl) (heldAll (freeMove rfl (E rfl rfl))) ?_
    refine AWH.tk (i := 1) rfl rfl rfl (B rfl) (heldAll (freeField rfl fo_23_2 (E rfl rfl))) ?_
    refine AWH.tk (i := 2) rfl rfl rfl (B rfl) (heldLoad rfl ag_3 (E rfl rfl) rfl) ?_
    refine AWH.tk (i := 3) rfl rfl rfl (B rfl) (heldAll (freeField rfl fo_23_1 (E rfl rfl))) ?_
    refine AWH.tk (i := 4) rfl rfl rfl (B rfl) (heldLoad rfl ag_3 (E rfl rfl) rfl) ?_
    refine AWH.tk (i := 6) rfl rfl rfl (B rfl) (heldAll (freeMove rfl (E rfl rfl))) ?_
    refine AWH.tk (i := 9) rfl rfl rfl (B rfl) (heldAll (freeField rfl fo_23_2 (E rfl rfl))) ?_
    refine AWH.tk (i := 10) rfl rfl rfl (B rfl) (heldLoad rfl ag_3 (E rfl rfl) rfl) ?_
    refine AWH.tk (i := 11) rfl rfl rfl (B rfl) (heldAll (freeField rfl fo_23_1 (E rfl rfl))) ?_
    refine AWH.tk (i := 12) rfl rfl rfl (B rfl) (heldLoad rfl ag_3 (E rfl rfl) rfl) ?_
    refine AWH.two (i := 5) (j := 7) (by kernel_rfl) rfl rfl ?_ ?_
    ·
     refine AWL.call rfl rfl (B rfl) rfl ce_27 (E rfl rfl) (evsC (E rfl rfl) (evsC (E rfl rfl) (evsC (E rfl rfl) (evsC (E rfl rfl) evs0)))) (S1 := CB _ _ _ _) (S2 := [_]) rfl (rex34 _ _ _ _ _ _ _) ?_
     rintro t39 S39 ⟨rfl, A39, c39, rfl⟩
     refine tb 2 rfl ?_
     refine AWH.one (i := 7) (by kernel_rfl) rfl ?_
     refine AWL.buildSlice1 rfl rfl (B rfl) rfl el_43 rfl (evsC (E rfl rfl) evs0) (Nat.le_of_ble_eq_true rfl) rfl rfl ?_
     refine tb 2 rfl ?_
     refine AWH.one (i := 8) (by kernel_rfl) rfl ?_
     refine AWL.call rfl rfl (B rfl) rfl ce_28 (E rfl rfl) (evsC (E rfl rfl) (evsC (E rfl rfl) evs0)) (S1 := CB _ _ _ _) (S2 := [_]) rfl (put35 _ _ _ _ [_]) ?_
     rintro t42 S42 ⟨rfl, A42, c42, rfl⟩
     refine tb 2 rfl ?_
     refine AWH.one (i := 13) (by kernel_rfl) rfl ?_
     refine AWL.call rfl rfl (B rfl) rfl ce_29 (E rfl rfl) (evsC (E rfl rfl) (evsC (E rfl rfl) (evsC (E rfl rfl) evs0))) (S1 := CB _ _ _ _) (S2 := [_]) rfl (two36 _ _ _ _ _ _) ?_
     rintro t47 S47 ⟨rfl, A47, c47, rfl⟩
     refine tb 2 rfl ?_
     refine AWH.done (by kernel_rfl) ?_
     refine AW.rseq ?_
     refine AWL.y rfl rfl (B rfl) (Yv.move rfl (E rfl rfl)) ?_
     refine AWL.y rfl rfl (B rfl) (Yv.nilChk rfl (E rfl rfl)) ?_
     refine AWL.y rfl rfl (B rfl) (Yv.fieldBox rfl fo_49_0 (E rfl rfl)) ?_
     refine AWL.y rfl rfl (B rfl) (Yv.loadBox rfl ag_24 (i := 1) rfl (E rfl rfl) rfl) ?_
     refine AWL.y rfl rfl (B rfl) (Yv.assign rfl (E rfl rfl)) ?_
     refine AWL.y rfl rfl (B rfl) (Yv.assign rfl (E rfl rfl)) ?_
     refine AWL.nil ?_
     refine AW.drop (List.take_sublist 1 _) ?_
     refine AW.ret (retI (.tmp rfl (.tmp rfl .nil)) ?_)
     rw [if_pos hval]
     refine enc_end ?_
     rw [enc0 (by rw [h3t]; rfl)]
     skip
     try simp only [List.append_assoc]
     rfl
    ·
     refine AWL.buildSlice1 rfl rfl (B rfl) rfl el_43 rfl (evsC (E rfl rfl) evs0) (Nat.le_of_ble_eq_true rfl) rfl rfl ?_
     refine tb 2 rfl ?_
     refine AWH.one (i := 5) (by kernel_rfl) rfl ?_
     refine AWL.call rfl rfl (B rfl) rfl ce_27 (E rfl rfl) (evsC (E rfl rfl) (evsC (E rfl rfl) (evsC (E rfl rfl) (evsC (E rfl rfl) evs0)))) (S1 := CB _ _ _ _) (S2 := [_]) rfl (rex34 _ _ _ _ _ _ _) ?_
     rintro t39 S39 ⟨rfl, A39, c39, rfl⟩
     refine tb 2 rfl ?_
     refine AWH.one (i := 8) (by kernel_rfl) rfl ?_
     refine AWL.call rfl rfl (B rfl) rfl ce_28 (E rfl rfl) (evsC (E rfl rfl) (evsC (E rfl rfl) evs0)) (S1 := CB _ _ _ _) (S2 := [_]) rfl (put35 _ _ _ _ [_]) ?_
     rintro t42 S42 ⟨rfl, A42, c42, rfl⟩
     refine tb 2 rfl ?_
     refine AWH.one (i := 13) (by kernel_rfl) rfl ?_
     refine AWL.call rfl rfl (B rfl) rfl ce_29 (E rfl rfl) (evsC (E rfl rfl) (evsC (E rfl rfl) (evsC (E rfl rfl) evs0))) (S1 := CB _ _ _ _) (S2 := [_]) rfl (two36 _ _ _ _ _ _) ?_
     rintro t47 S47 ⟨rfl, A47, c47, rfl⟩
     refine tb 2 rfl ?_
     refine AWH.done (by kernel_rfl) ?_
     refine AW.rseq ?_
     refine AWL.y rfl rfl (B rfl) (Yv.move rfl (E rfl rfl)) ?_
     refine AWL.y rfl rfl (B rfl) (Yv.nilChk rfl (E rfl rfl)) ?_
     refine AWL.y rfl rfl (B rfl) (Yv.fieldBox rfl fo_49_0 (E rfl rfl)) ?_
     refine AWL.y rfl rfl (B rfl) (Yv.loadBox rfl ag_24 (i := 1) rfl (E rfl rfl) rfl) ?_
     refine AWL.y rfl rfl (B rfl) (Yv.assign rfl (E rfl rfl)) ?_
     refine AWL.y rfl rfl (B rfl) (Yv.assign rfl (E rfl rfl)) ?_
     refine AWL.nil ?_
     refine AW.drop (List.take_sublist 1 _) ?_
     refine AW.ret (retI (.tmp rfl (.tmp rfl .nil)) ?_)
     rw [if_pos hval]
     refine enc_end ?_
     rw [enc0 (by rw [h3t]; rfl)]
     skip
     try simp only [List.append_assoc]
     rfl
   · exfalso; replace h4f := of_decide_eq_false h4f; omega
  try replace h3f := of_decide_eq_false h3f
  refine AW.rseq ?_
  refine AWL.y rfl rfl (B rfl) (Yv.eql rfl (E rfl rfl) (E rfl rfl)) ?_
  refine AWL.y rfl rfl (B rfl) (Yv.assign rfl (E rfl rfl)) ?_
  refine AWL.nil ?_
  refine AW.cond rfl (fun h5t => ?_) (fun h5f => ?_)
  ·
   try replace h5t := of_decide_eq_true h5t
   refine AW.skip ?_
   refine AW.cond rfl (fun h6t => ?_) (fun h6f => ?_)
   ·
    try replace h6t := of_decide_eq_true h6t
    refine AW.regionH (HeldBox b1 (insVals i)) rfl (tells_box (k := 2) rfl) ?_
    refine AWH.tk (i := 0) rfl rfl rfl (B rfl) (heldAll (freeMove rfl (E rfl rfl))) ?_
    refine AWH.tk (i := 1) rfl rfl rfl (B rfl) (heldAll (freeField rfl fo_23_2 (E rfl rfl))) ?_
    refine AWH.tk (i := 2) rfl rfl rfl (B rfl) (heldLoad rfl ag_3 (E rfl rfl) rfl) ?_
    refine AWH.tk (i := 3) rfl rfl rfl (B rfl) (heldAll (freeField rfl fo_23_1 (E rfl rfl))) ?_
    refine AWH.tk (i := 4) rfl rfl rfl (B rfl) (heldLoad rfl ag_3 (E rfl rfl) rfl) ?_
    refine AWH.tk (i := 6) rfl rfl rfl (B rfl) (heldAll (freeMove rfl (E rfl rfl))) ?_
    refine AWH.tk (i := 9) rfl rfl rfl (B rfl) (heldAll (freeField rfl fo_23_2 (E rfl rfl))) ?_
    refine AWH.tk (i := 10) rfl rfl rfl (B rfl) (heldLoad rfl ag_3 (E rfl rfl) rfl) ?_
    refine AWH.tk (i := 11) rfl rfl rfl (B rfl) (heldAll (freeField rfl fo_23_1 (E rfl rfl))) ?_
    refine AWH.tk (i := 12) rfl rfl rfl (B rfl) (heldLoad rfl ag_3 (E rfl rfl) rfl) ?_
    refine AWH.two (i := 5) (j := 7) (by kernel_rfl) rfl rfl ?_ ?_
    ·
     refine AWL.call rfl rfl (B rfl) rfl ce_27 (E rfl rfl) (evsC (E rfl rfl) (evsC (E rfl rfl) (evsC (E rfl rfl) (evsC (E rfl rfl) evs0)))) (S1 := CB _ _ _ _) (S2 := [_]) rfl (rex34 _ _ _ _ _ _ _) ?_
     rintro t39 S39 ⟨rfl, A39, c39, rfl⟩
     refine tb 2 rfl ?_
     refine AWH.one (i := 7) (by kernel_rfl) rfl ?_
     refine AWL.buildSlice1 rfl rfl (B rfl) rfl el_43 rfl (evsC (E rfl rfl) evs0) (Nat.le_of_ble_eq_true rfl) rfl rfl ?_
     refine tb 2 rfl ?_
     refine AWH.one (i := 8) (by kernel_rfl) rfl ?_
     refine AWL.call rfl rfl (B rfl) rfl ce_28 (E rfl rfl) (evsC (E rfl rfl) (evsC (E rfl rfl) evs0)) (S1 := CB _ _ _ _) (S2 := [_]) rfl (put35 _ _ _ _ [_]) ?_
     rintro t42 S42 ⟨rfl, A42, c42, rfl⟩
     refine tb 2 rfl ?_
     refine AWH.one (i := 13) (by kernel_rfl) rfl ?_
     refine AWL.call rfl rfl (B rfl) rfl ce_29 (E rfl rfl) (evsC (E rfl rfl) (evsC (E rfl rfl) (evsC (E rfl rfl) evs0))) (S1 := CB _ _ _ _) (S2 := [_]) rfl (two36 _ _ _ _ _ _) ?_
     rintro t47 S47 ⟨rfl, A47, c47, rfl⟩
     refine tb 2 rfl ?_
     refine AWH.done (by kernel_rfl) ?_
     refine AW.rseq ?_
     refine AWL.y rfl rfl (B rfl) (Yv.move rfl (E rfl rfl)) ?_
     refine AWL.y rfl rfl (B rfl) (Yv.nilChk rfl (E rfl rfl)) ?_
     refine AWL.y rfl rfl (B rfl) (Yv.fieldBox rfl fo_49_0 (E rfl rfl)) ?_
     refine AWL.y rfl rfl (B rfl) (Yv.loadBox rfl ag_24 (i := 1) rfl (E rfl rfl) rfl) ?_
     refine AWL.y rfl rfl (B rfl) (Yv.assign rfl (E rfl rfl)) ?_
     refine AWL.y rfl rfl (B rfl) (Yv.assign rfl (E rfl rfl)) ?_
     refine AWL.nil ?_
     refine AW.drop (List.take_sublist 1 _) ?_
     refine AW.ret (retI (.tmp rfl (.tmp rfl .nil)) ?_)
     rw [if_pos hval]
     refine enc_end ?_
     rw [enc0 (by rw [h5t]; rfl)]
     skip
     try simp only [List.append_assoc]
     rfl
    ·
     refine AWL.buildSlice1 rfl rfl (B rfl) rfl el_43 rfl (evsC (E rfl rfl) evs0) (Nat.le_of_ble_eq_true rfl) rfl rfl ?_
     refine tb 2 rfl ?_
     refine AWH.one (i := 5) (by kernel_rfl) rfl ?_
     refine AWL.call rfl rfl (B rfl) rfl ce_27 (E rfl rfl) (evsC (E rfl rfl) (evsC (E rfl rfl) (evsC (E rfl rfl) (evsC (E rfl rfl) evs0)))) (S1 := CB _ _ _ _) (S2 := [_]) rfl (rex34 _ _ _ _ _ _ _) ?_
     rintro t39 S39 ⟨rfl, A39, c39, rfl⟩
     refine tb 2 rfl ?_
     refine AWH.one (i := 8) (by kernel_rfl) rfl ?_
     refine AWL.call rfl rfl (B rfl) rfl ce_28 (E rfl rfl) (evsC (E rfl rfl) (evsC (E rfl rfl) evs0)) (S1 := CB _ _ _ _) (S2 := [_]) rfl (put35 _ _ _ _ [_]) ?_
     rintro t42 S42 ⟨rfl, A42, c42, rfl⟩
     refine tb 2 rfl ?_
     refine AWH.one (i := 13) (by kernel_rfl) rfl ?_
     refine AWL.call rfl rfl (B rfl) rfl ce_29 (E rfl rfl) (evsC (E rfl rfl) (evsC (E rfl rfl) (evsC (E rfl rfl) evs0))) (S1 := CB _ _ _ _) (S2 := [_]) rfl (two36 _ _ _ _ _ _) ?_
     rintro t47 S47 ⟨rfl, A47, c47, rfl⟩
     refine tb 2 rfl ?_
     refine AWH.done (by kernel_rfl) ?_
     refine AW.rseq ?_
     refine AWL.y rfl rfl (B rfl) (Yv.move rfl (E rfl rfl)) ?_
     refine AWL.y rfl rfl (B rfl) (Yv.nilChk rfl (E rfl rfl)) ?_
     refine AWL.y rfl rfl (B rfl) (Yv.fieldBox rfl fo_49_0 (E rfl rfl)) ?_
     refine AWL.y rfl rfl (B rfl) (Yv.loadBox rfl ag_24 (i := 1) rfl (E rfl rfl) rfl) ?_
     refine AWL.y rfl rfl (B rfl) (Yv.assign rfl (E rfl rfl)) ?_
     refine AWL.y rfl rfl (B rfl) (Yv.assign rfl (E rfl rfl)) ?_
     refine AWL.nil ?_
     refine AW.drop (List.take_sublist 1 _) ?_
     refine AW.ret (retI (.tmp rfl (.tmp rfl .nil)) ?_)
     rw [if_pos hval]
     refine enc_end ?_
     rw [enc0 (by rw [h5t]; rfl)]
     skip
     try simp only [List.append_assoc]
     rfl
   · exfalso; replace h6f := of_decide_eq_false h6f; omega
  try replace h5f := of_decide_eq_false h5f
  refine AW.rseq ?_
  refine AWL.y rfl rfl (B rfl) (Yv.eql rfl (E rfl rfl) (E rfl rfl)) ?_
  refine AWL.y rfl rfl (B rfl) (Yv.assign rfl (E rfl rfl)) ?_
  refine AWL.nil ?_
  refine AW.cond rfl (fun h7t => ?_) (fun h7f => ?_)
  ·
   try replace h7t := of_decide_eq_true h7t
   refine AW.skip ?_
   refine AW.cond rfl (fun h8t => ?_) (fun h8f => ?_)
   ·
    try replace h8t := of_decide_eq_true h8t
    refine AW.regionH (HeldBox b1 (insVals i)) rfl (tells_box (k := 2) rfl) ?_
    refine AWH.tk (i := 0) rfl rfl rfl (B rfl) (heldAll (freeMove rfl (E rfl rfl))) ?_
    refine AWH.tk (i := 1) rfl rfl rfl (B rfl) (heldAll (freeField rfl fo_23_2 (E rfl rfl))) ?_
    refine AWH.tk (i := 2) rfl rfl rfl (B rfl) (heldLoad rfl ag_3 (E rfl rfl) rfl) ?_
    refine AWH.tk (i := 3) rfl rfl rfl (B rfl) (heldAll (freeField rfl fo_23_1 (E rfl rfl))) ?_
    refine AWH.tk (i := 4) rfl rfl rfl (B rfl) (heldLoad rfl ag_3 (E rfl rfl) rfl) ?_
    refine AWH.tk (i := 6) rfl rfl rfl (B rfl) (heldAll (freeMove rfl (E rfl rfl))) ?_
    refine AWH.tk (i := 9) rfl rfl rfl (B rfl) (heldAll (freeField rfl fo_23_2 (E rfl rfl))) ?_
    refine AWH.tk (i := 10) rfl rfl rfl (B rfl) (heldLoad rfl ag_3 (E rfl rfl) rfl) ?_
    refine AWH.tk (i := 11) rfl rfl rfl (B rfl) (heldAll (freeField rfl fo_23_1 (E rfl rfl))) ?_
    refine AWH.tk (i := 12) rfl rfl rfl (B rfl) (heldLoad rfl ag_3 (E rfl rfl) rfl) ?_
    refine AWH.two (i := 5) (j := 7) (by kernel_rfl) rfl rfl ?_ ?_
    ·
     refine AWL.call rfl rfl (B rfl) rfl ce_27 (E rfl rfl) (evsC (E rfl rfl) (evsC (E rfl rfl) (evsC (E rfl rfl) (evsC (E rfl rfl) evs0)))) (S1 := CB _ _ _ _) (S2 := [_]) rfl (rex34 _ _ _ _ _ _ _) ?_
     rintro t39 S39 ⟨rfl, A39, c39, rfl⟩
     refine tb 2 rfl ?_
     refine AWH.one (i := 7) (by kernel_rfl) rfl ?_
     refine AWL.buildSlice1 rfl rfl (B rfl) rfl el_43 rfl (evsC (E rfl rfl) evs0) (Nat.le_of_ble_eq_true rfl) rfl rfl ?_
     refine tb 2 rfl ?_
     refine AWH.one (i := 8) (by kernel_rfl) rfl ?_
     refine AWL.call rfl rfl (B rfl) rfl ce_28 (E rfl rfl) (evsC (E rfl rfl) (evsC (E rfl rfl) evs0)) (S1 := CB _ _ _ _) (S2 := [_]) rfl (put35 _ _ _ _ [_]) ?_
     rintro t42 S42 ⟨rfl, A42, c42, rfl⟩
     refine tb 2 rfl ?_
     refine AWH.one (i := 13) (by kernel_rfl) rfl ?_
     refine AWL.call rfl rfl (B rfl) rfl ce_29 (E rfl rfl) (evsC (E rfl rfl) (evsC (E rfl rfl) (evsC (E rfl rfl) evs0))) (S1 := CB _ _ _ _) (S2 := [_]) rfl (two36 _ _ _ _ _ _) ?_
     rintro t47 S47 ⟨rfl, A47, c47, rfl⟩
     refine tb 2 rfl ?_
     refine AWH.done (by kernel_rfl) ?_
     refine AW.rseq ?_
     refine AWL.y rfl rfl (B rfl) (Yv.move rfl (E rfl rfl)) ?_
     refine AWL.y rfl rfl (B rfl) (Yv.nilChk rfl (E rfl rfl)) ?_
     refine AWL.y rfl rfl (B rfl) (Yv.fieldBox rfl fo_49_0 (E rfl rfl)) ?_
     refine AWL.y rfl rfl (B rfl) (Yv.loadBox rfl ag_24 (i := 1) rfl (E rfl rfl) rfl) ?_
     refine AWL.y rfl rfl (B rfl) (Yv.assign rfl (E rfl rfl)) ?_
     refine AWL.y rfl rfl (B rfl) (Yv.assign rfl (E rfl rfl)) ?_
     refine AWL.nil ?_
     refine AW.drop (List.take_sublist 1 _) ?_
     refine AW.ret (retI (.tmp rfl (.tmp rfl .nil)) ?_)
     rw [if_pos hval]
     refine enc_end ?_
     rw [enc0 (by rw [h7t]; rfl)]
     skip
     try simp only [List.append_assoc]
     rfl
    ·
     refine AWL.buildSlice1 rfl rfl (B rfl) rfl el_43 rfl (evsC (E rfl rfl) evs0) (Nat.le_of_ble_eq_true rfl) rfl rfl ?_
     refine tb 2 rfl ?_
     refine AWH.one (i := 5) (by kernel_rfl) rfl ?_
     refine AWL.call rfl rfl (B rfl) rfl ce_27 (E rfl rfl) (evsC (E rfl rfl) (evsC (E rfl rfl) (evsC (E rfl rfl) (evsC (E rfl rfl) evs0)))) (S1 := CB _ _ _ _) (S2 := [_]) rfl (rex34 _ _ _ _ _ _ _) ?_
     rintro t39 S39 ⟨rfl, A39, c39, rfl⟩
     refine tb 2 rfl ?_
     refine AWH.one (i := 8) (by kernel_rfl) rfl ?_
     refine AWL.call rfl rfl (B rfl) rfl ce_28 (E rfl rfl) (evsC (E rfl rfl) (evsC (E rfl rfl) evs0)) (S1 := CB _ _ _ _) (S2 := [_]) rfl (put35 _ _ _ _ [_]) ?_
     rintro t42 S42 ⟨rfl, A42, c42, rfl⟩
     refine tb 2 rfl ?_
     refine AWH.one (i := 13) (by kernel_rfl) rfl ?_
     refine AWL.call rfl rfl (B rfl) rfl ce_29 (E rfl rfl) (evsC (E rfl rfl) (evsC (E rfl rfl) (evsC (E rfl rfl) evs0))) (S1 := CB _ _ _ _) (S2 := [_]) rfl (two36 _ _ _ _ _ _) ?_
     rintro t47 S47 ⟨rfl, A47, c47, rfl⟩
     refine tb 2 rfl ?_
     refine AWH.done (by kernel_rfl) ?_
     refine AW.rseq ?_
     refine AWL.y rfl rfl (B rfl) (Yv.move rfl (E rfl rfl)) ?_
     refine AWL.y rfl rfl (B rfl) (Yv.nilChk rfl (E rfl rfl)) ?_
     refine AWL.y rfl rfl (B rfl) (Yv.fieldBox rfl fo_49_0 (E rfl rfl)) ?_
     refine AWL.y rfl rfl (B rfl) (Yv.loadBox rfl ag_24 (i := 1) rfl (E rfl rfl) rfl) ?_
     refine AWL.y rfl rfl (B rfl) (Yv.assign rfl (E rfl rfl)) ?_
     refine AWL.y rfl rfl (B rfl) (Yv.assign rfl (E rfl rfl)) ?_
     refine AWL.nil ?_
     refine AW.drop (List.take_sublist 1 _) ?_
     refine AW.ret (retI (.tmp rfl (.tmp rfl .nil)) ?_)
     rw [if_pos hval]
     refine enc_end ?_
     rw [enc0 (by rw [h7t]; rfl)]
     skip
     try simp only [List.append_assoc]
     rfl
   · exfalso; replace h8f := of_decide_eq_false h8f; omega
  try replace h7f := of_decide_eq_false h7f
  refine AW.rseq ?_
  refine AWL.y rfl rfl (B rfl) (Yv.eql rfl (E rfl rfl) (E rfl rfl)) ?_
  refine AWL.y rfl rfl (B rfl) (Yv.assign rfl (E rfl rfl)) ?_
  refine AWL.nil ?_
  refine AW.cond rfl (fun h9t => ?_) (fun h9f => ?_)
  ·
   try replace h9t := of_decide_eq_true h9t
   refine AW.skip ?_
   refine AW.cond rfl (fun h10t => ?_) (fun h10f => ?_)
   ·
    try replace h10t := of_decide_eq_true h10t
    refine AW.regionH (HeldBox b1 (insVals i)) rfl (tells_box (k := 2) rfl) ?_
    refine AWH.tk (i := 0) rfl rfl rfl (B rfl) (heldAll (freeMove rfl (E rfl rfl))) ?_
    refine AWH.tk (i := 1) rfl rfl rfl (B rfl) (heldAll (freeField rfl fo_23_2 (E rfl rfl))) ?_
    refine AWH.tk (i := 2) rfl rfl rfl (B rfl) (heldLoad rfl ag_3 (E rfl rfl) rfl) ?_
    refine AWH.tk (i := 3) rfl rfl rfl (B rfl) (heldAll (freeField rfl fo_23_1 (E rfl rfl))) ?_
    refine AWH.tk (i := 4) rfl rfl rfl (B rfl) (heldLoad rfl ag_3 (E rfl rfl) rfl) ?_
    refine AWH.tk (i := 6) rfl rfl rfl (B rfl) (heldAll (freeMove rfl (E rfl rfl))) ?_
    refine AWH.tk (i := 9) rfl rfl rfl (B rfl) (heldAll (freeField rfl fo_23_2 (E rfl rfl))) ?_
    refine AWH.tk (i := 10) rfl rfl rfl (B rfl) (heldLoad rfl ag_3 (E rfl rfl) rfl) ?_
    refine AWH.tk (i := 11) rfl rfl rfl (B rfl) (heldAll (freeField rfl fo_23_1 (E rfl rfl))) ?_
    refine AWH.tk (i := 12) rfl rfl rfl (B rfl) (heldLoad rfl ag_3 (E rfl rfl) rfl) ?_
    refine AWH.two (i := 5) (j := 7) (by kernel_rfl) rfl rfl ?_ ?_
    ·
     refine AWL.call rfl rfl (B rfl) rfl ce_27 (E rfl rfl) (evsC (E rfl rfl) (evsC (E rfl rfl) (evsC (E rfl rfl) (evsC (E rfl rfl) evs0)))) (S1 := CB _ _ _ _) (S2 := [_]) rfl (rex34 _ _ _ _ _ _ _) ?_
     rintro t39 S39 ⟨rfl, A39, c39, rfl⟩
     refine tb 2 rfl ?_
     refine AWH.one (i := 7) (by kernel_rfl) rfl ?_
     refine AWL.buildSlice1 rfl rfl (B rfl) rfl el_43 rfl (evsC (E rfl rfl) evs0) (Nat.le_of_ble_eq_true rfl) rfl rfl ?_
     refine tb 2 rfl ?_
     refine AWH.one (i := 8) (by kernel_rfl) rfl ?_
     refine AWL.call rfl rfl (B rfl) rfl ce_28 (E rfl rfl) (evsC (E rfl rfl) (evsC (E rfl rfl) evs0)) (S1 := CB _ _ _ _) (S2 := [_]) rfl (put35 _ _ _ _ [_]) ?_
     rintro t42 S42 ⟨rfl, A42, c42, rfl⟩
     refine tb 2 rfl ?_
     refine AWH.one (i := 13) (by kernel_rfl) rfl ?_
     refine AWL.call rfl rfl (B rfl) rfl ce_29 (E rfl rfl) (evsC (E rfl rfl) (evsC (E rfl rfl) (evsC (E rfl rfl) evs0))) (S1 := CB _ _ _ _) (S2 := [_]) rfl (two36 _ _ _ _ _ _) ?_
     rintro t47 S47 ⟨rfl, A47, c47, rfl⟩
     refine tb 2 rfl ?_
     refine AWH.done (by kernel_rfl) ?_
     refine AW.rseq ?_
     refine AWL.y rfl rfl (B rfl) (Yv.move rfl (E rfl rfl)) ?_
     refine AWL.y rfl rfl (B rfl) (Yv.nilChk rfl (E rfl rfl)) ?_
     refine AWL.y rfl rfl (B rfl) (Yv.fieldBox rfl fo_49_0 (E rfl rfl)) ?_
     refine AWL.y rfl rfl (B rfl) (Yv.loadBox rfl ag_24 (i := 1) rfl (E rfl rfl) rfl) ?_
     refine AWL.y rfl rfl (B rfl) (Yv.assign rfl (E rfl rfl)) ?_
     refine AWL.y rfl rfl (B rfl) (Yv.assign rfl (E rfl rfl)) ?_
     refine AWL.nil ?_
     refine AW.drop (List.take_sublist 1 _) ?_
     refine AW.ret (retI (.tmp rfl (.tmp rfl .nil)) ?_)
     rw [if_pos hval]
     refine enc_end ?_
     rw [enc0 (by rw [h9t]; rfl)]
     skip
     try simp only [List.append_assoc]
     rfl
    ·
     refine AWL.buildSlice1 rfl rfl (B rfl) rfl el_43 rfl (evsC (E rfl rfl) evs0) (Nat.le_of_ble_eq_true rfl) rfl rfl ?_
     refine tb 2 rfl ?_
     refine AWH.one (i := 5) (by kernel_rfl) rfl ?_
     refine AWL.call rfl rfl (B rfl) rfl ce_27 (E rfl rfl) (evsC (E rfl rfl) (evsC (E rfl rfl) (evsC (E rfl rfl) (evsC (E rfl rfl) evs0)))) (S1 := CB _ _ _ _) (S2 := [_]) rfl (rex34 _ _ _ _ _ _ _) ?_
     rintro t39 S39 ⟨rfl, A39, c39, rfl⟩
     refine tb 2 rfl ?_
     refine AWH.one (i := 8) (by kernel_rfl) rfl ?_
     refine AWL.call rfl rfl (B rfl) rfl ce_28 (E rfl rfl) (evsC (E rfl rfl) (evsC (E rfl rfl) evs0)) (S1 := CB _ _ _ _) (S2 := [_]) rfl (put35 _ _ _ _ [_]) ?_
     rintro t42 S42 ⟨rfl, A42, c42, rfl⟩
     refine tb 2 rfl ?_
     refine AWH.one (i := 13) (by kernel_rfl) rfl ?_
     refine AWL.call rfl rfl (B rfl) rfl ce_29 (E rfl rfl) (evsC (E rfl rfl) (evsC (E rfl rfl) (evsC (E rfl rfl) evs0))) (S1 := CB _ _ _ _) (S2 := [_]) rfl (two36 _ _ _ _ _ _) ?_
     rintro t47 S47 ⟨rfl, A47, c47, rfl⟩
     refine tb 2 rfl ?_
     refine AWH.done (by kernel_rfl) ?_
     refine AW.rseq ?_
     refine AWL.y rfl rfl (B rfl) (Yv.move rfl (E rfl rfl)) ?_
     refine AWL.y rfl rfl (B rfl) (Yv.nilChk rfl (E rfl rfl)) ?_
     refine AWL.y rfl rfl (B rfl) (Yv.fieldBox rfl fo_49_0 (E rfl rfl)) ?_
     refine AWL.y rfl rfl (B rfl) (Yv.loadBox rfl ag_24 (i := 1) rfl (E rfl rfl) rfl) ?_
     refine AWL.y rfl rfl (B rfl) (Yv.assign rfl (E rfl rfl)) ?_
     refine AWL.y rfl rfl (B rfl) (Yv.assign rfl (E rfl rfl)) ?_
     refine AWL.nil ?_
     refine AW.drop (List.take_sublist 1 _) ?_
     refine AW.ret (retI (.tmp rfl (.tmp rfl .nil)) ?_)
     rw [if_pos hval]
     refine enc_end ?_
     rw [enc0 (by rw [h9t]; rfl)]
     skip
     try simp only [List.append_assoc]
     rfl
   · exfalso; replace h10f := of_decide_eq_false h10f; omega
  try replace h9f := of_decide_eq_false h9f
  refine AW.rseq ?_
  refine AWL.y rfl rfl (B rfl) (Yv.eql rfl (E rfl rfl) (E rfl rfl)) ?_
  refine AWL.y rfl rfl (B rfl) (Yv.assign rfl (E rfl rfl)) ?_
  refine AWL.nil ?_
  refine AW.cond rfl (fun h11t => ?_) (fun h11f => ?_)
  ·
   try replace h11t := of_decide_eq_true h11t
   refine AW.skip ?_
   refine AW.cond rfl (fun h12t => ?_) (fun h12f => ?_)
   ·
    try replace h12t := of_decide_eq_true h12t
    refine AW.regionH (HeldBox b1 (insVals i)) rfl (tells_box (k := 2) rfl) ?_
    refine AWH.tk (i := 0) rfl rfl rfl (B rfl) (heldAll (freeMove rfl (E rfl rfl))) ?_
    refine AWH.tk (i := 1) rfl rfl rfl (B rfl) (heldAll (freeField rfl fo_23_2 (E rfl rfl))) ?_
    refine AWH.tk (i := 2) rfl rfl rfl (B rfl) (heldLoad rfl ag_3 (E rfl rfl) rfl) ?_
    refine AWH.tk (i := 3) rfl rfl rfl (B rfl) (heldAll (freeField rfl fo_23_1 (E rfl rfl))) ?_
    refine AWH.tk (i := 4) rfl rfl rfl (B rfl) (heldLoad rfl ag_3 (E rfl rfl) rfl) ?_
    refine AWH.tk (i := 6) rfl rfl rfl (B rfl) (heldAll (freeMove rfl (E rfl rfl))) ?_
    refine AWH.tk (i := 9) rfl rfl rfl (B rfl) (heldAll (freeField rfl fo_23_2 (E rfl rfl))) ?_
    refine AWH.tk (i := 10) rfl rfl rfl (B rfl) (heldLoad rfl ag_3 (E rfl rfl) rfl) ?_
    refine AWH.tk (i := 11) rfl rfl rfl (B rfl) (heldAll (freeField rfl fo_23_1 (E rfl rfl))) ?_
    refine AWH.tk (i := 12) rfl rfl rfl (B rfl) (heldLoad rfl ag_3 (E rfl rfl) rfl) ?_
    refine AWH.two (i := 5) (j := 7) (by kernel_rfl) rfl rfl ?_ ?_
    ·
     refine AWL.call rfl rfl (B rfl) rfl ce_27 (E rfl rfl) (evsC (E rfl rfl) (evsC (E rfl rfl) (evsC (E rfl rfl) (evsC (E rfl rfl) evs0)))) (S1 := CB _ _ _ _) (S2 := [_]) rfl (rex34 _ _ _ _ _ _ _) ?_
     rintro t39 S39 ⟨rfl, A39, c39, rfl⟩
     refine tb 2 rfl ?_
     refine AWH.one (i := 7) (by kernel_rfl) rfl ?_
     refine AWL.buildSlice1 rfl rfl (B rfl) rfl el_43 rfl (evsC (E rfl rfl) evs0) (Nat.le_of_ble_eq_true rfl) rfl rfl ?_
     refine tb 2 rfl ?_
     refine AWH.one (i := 8) (by kernel_rfl) rfl ?_
     refine AWL.call rfl rfl (B rfl) rfl ce_28 (E rfl rfl) (evsC (E rfl rfl) (evsC (E rfl rfl) evs0)) (S1 := CB _ _ _ _) (S2 := [_]) rfl (put35 _ _ _ _ [_]) ?_
     rintro t42 S42 ⟨rfl, A42, c42, rfl⟩
     refine tb 2 rfl ?_
     refine AWH.one (i := 13) (by kernel_rfl) rfl ?_
     refine AWL.call rfl rfl (B rfl) rfl ce_29 (E rfl rfl) (evsC (E rfl rfl) (evsC (E rfl rfl) (evsC (E rfl rfl) evs0))) (S1 := CB _ _ _ _) (S2 := [_]) rfl (two36 _ _ _ _ _ _) ?_
     rintro t47 S47 ⟨rfl, A47, c47, rfl⟩
     refine tb 2 rfl ?_
     refine AWH.done (by kernel_rfl) ?_
     refine AW.rseq ?_
     refine AWL.y rfl rfl (B rfl) (Yv.move rfl (E rfl rfl)) ?_
     refine AWL.y rfl rfl (B rfl) (Yv.nilChk rfl (E rfl rfl)) ?_
     refine AWL.y rfl rfl (B rfl) (Yv.fieldBox rfl fo_49_0 (E rfl rfl)) ?_
     refine AWL.y rfl rfl (B rfl) (Yv.loadBox rfl ag_24 (i := 1) rfl (E rfl rfl) rfl) ?_
     refine AWL.y rfl rfl (B rfl) (Yv.assign rfl (E rfl rfl)) ?_
     refine AWL.y rfl rfl (B rfl) (Yv.assign rfl (E rfl rfl)) ?_
     refine AWL.nil ?_
     refine AW.drop (List.take_sublist 1 _) ?_
     refine AW.ret (retI (.tmp rfl (.tmp rfl .nil)) ?_)
     rw [if_pos hval]
     refine enc_end ?_
     rw [enc0 (by rw [h11t]; rfl)]
     skip
     try simp only [List.append_assoc]
     rfl
    ·
     refine AWL.buildSlice1 rfl rfl (B rfl) rfl el_43 rfl (evsC (E rfl rfl) evs0) (Nat.le_of_ble_eq_true rfl) rfl rfl ?_
     refine tb 2 rfl ?_
     refine AWH.one (i := 5) (by kernel_rfl) rfl ?_
     refine AWL.call rfl rfl (B rfl) rfl ce_27 (E rfl rfl) (evsC (E rfl rfl) (evsC (E rfl rfl) (evsC (E rfl rfl) (evsC (E rfl rfl) evs0)))) (S1 := CB _ _ _ _) (S2 := [_]) rfl (rex34 _ _ _ _ _ _ _) ?_
     rintro t39 S39 ⟨rfl, A39, c39, rfl⟩
     refine tb 2 rfl ?_
     refine AWH.one (i := 8) (by kernel_rfl) rfl ?_
     refine AWL.call rfl rfl (B rfl) rfl ce_28 (E rfl rfl) (evsC (E rfl rfl) (evsC (E rfl rfl) evs0)) (S1 := CB _ _ _ _) (S2 := [_]) rfl (put35 _ _ _ _ [_]) ?_
     rintro t42 S42 ⟨rfl, A42, c42, rfl⟩
     refine tb 2 rfl ?_
     refine AWH.one (i := 13) (by kernel_rfl) rfl ?_
     refine AWL.call rfl rfl (B rfl) rfl ce_29 (E rfl rfl) (evsC (E rfl rfl) (evsC (E rfl rfl) (evsC (E rfl rfl) evs0))) (S1 := CB _ _ _ _) (S2 := [_]) rfl (two36 _ _ _ _ _ _) ?_
     rintro t47 S47 ⟨rfl, A47, c47, rfl⟩
     refine tb 2 rfl ?_
     refine AWH.done (by kernel_rfl) ?_
     refine AW.rseq ?_
     refine AWL.y rfl rfl (B rfl) (Yv.move rfl (E rfl rfl)) ?_
     refine AWL.y rfl rfl (B rfl) (Yv.nilChk rfl (E rfl rfl)) ?_
     refine AWL.y rfl rfl (B rfl) (Yv.fieldBox rfl fo_49_0 (E rfl rfl)) ?_
     refine AWL.y rfl rfl (B rfl) (Yv.loadBox rfl ag_24 (i := 1) rfl (E rfl rfl) rfl) ?_
     refine AWL.y rfl rfl (B rfl) (Yv.assign rfl (E rfl rfl)) ?_
     refine AWL.y rfl rfl (B rfl) (Yv.assign rfl (E rfl rfl)) ?_
     refine AWL.nil ?_
     refine AW.drop (List.take_sublist 1 _) ?_
     refine AW.ret (retI (.tmp rfl (.tmp rfl .nil)) ?_)
     rw [if_pos hval]
     refine enc_end ?_
     rw [enc0 (by rw [h11t]; rfl)]
     skip
     try simp only [List.append_assoc]
     rfl
   · exfalso; replace h12f := of_decide_eq_false h12f; omega
  try replace h11f := of_decide_eq_false h11f
  refine AW.rseq ?_
  refine AWL.y rfl rfl (B rfl) (Yv.eql rfl (E rfl rfl) (E rfl rfl)) ?_
  refine AWL.y rfl rfl (B rfl) (Yv.assign rfl (E rfl rfl)) ?_
  refine AWL.nil ?_
  refine AW.cond rfl (fun h13t => ?_) (fun h13f => ?_)
  ·
   try replace h13t := of_decide_eq_true h13t
   refine AW.skip ?_
   refine AW.cond rfl (fun h14t => ?_) (fun h14f => ?_)
   ·
    try replace h14t := of_decide_eq_true h14t
    refine AW.regionH (HeldBox b1 (insVals i)) rfl (tells_box (k := 2) rfl) ?_
    refine AWH.tk (i := 0) rfl rfl rfl (B rfl) (heldAll (freeMove rfl (E rfl rfl))) ?_
    refine AWH.tk (i := 1) rfl rfl rfl (B rfl) (heldAll (freeField rfl fo_23_2 (E rfl rfl))) ?_
    refine AWH.tk (i := 2) rfl rfl rfl (B rfl) (heldLoad rfl ag_3 (E rfl rfl) rfl) ?_
    refine AWH.tk (i := 3) rfl rfl rfl (B rfl) (heldAll (freeField rfl fo_23_1 (E rfl rfl))) ?_
    refine AWH.tk (i := 4) rfl rfl rfl (B rfl) (heldLoad rfl ag_3 (E rfl rfl) rfl) ?_
    refine AWH.tk (i := 6) rfl rfl rfl (B rfl) (heldAll (freeMove rfl (E rfl rfl))) ?_
    refine AWH.tk (i := 9) rfl rfl rfl (B rfl) (heldAll (freeField rfl fo_23_2 (E rfl rfl))) ?_
    refine AWH.tk (i := 10) rfl rfl rfl (B rfl) (heldLoad rfl ag_3 (E rfl rfl) rfl) ?_
    refine AWH.tk (i := 11) rfl rfl rfl (B rfl) (heldAll (freeField rfl fo_23_1 (E rfl rfl))) ?_
    refine AWH.tk (i := 12) rfl rfl rfl (B rfl) (heldLoad rfl ag_3 (E rfl rfl) rfl) ?_
    refine AWH.two (i := 5) (j := 7) (by kernel_rfl) rfl rfl ?_ ?_
    ·
     refine AWL.call rfl rfl (B rfl) rfl ce_27 (E rfl rfl) (evsC (E rfl rfl) (evsC (E rfl rfl) (evsC (E rfl rfl) (evsC (E rfl rfl) evs0)))) (S1 := CB _ _ _ _) (S2 := [_]) rfl (rex34 _ _ _ _ _ _ _) ?_
     rintro t39 S39 ⟨rfl, A39, c39, rfl⟩
     refine tb 2 rfl ?_
     refine AWH.one (i := 7) (by kernel_rfl) rfl ?_
     refine AWL.buildSlice1 rfl rfl (B rfl) rfl el_43 rfl (evsC (E rfl rfl) evs0) (Nat.le_of_ble_eq_true rfl) rfl rfl ?_
     refine tb 2 rfl ?_
     refine AWH.one (i := 8) (by kernel_rfl) rfl ?_
     refine AWL.call rfl rfl (B rfl) rfl ce_28 (E rfl rfl) (evsC (E rfl rfl) (evsC (E rfl rfl) evs0)) (S1 := CB _ _ _ _) (S2 := [_]) rfl (put35 _ _ _ _ [_]) ?_
     rintro t42 S42 ⟨rfl, A42, c42, rfl⟩
     refine tb 2 rfl ?_
     refine AWH.one (i := 13) (by kernel_rfl) rfl ?_
     refine AWL.call rfl rfl (B rfl) rfl ce_29 (E rfl rfl) (evsC (E rfl rfl) (evsC (E rfl rfl) (evsC (E rfl rfl) evs0))) (S1 := CB _ _ _ _) (S2 := [_]) rfl (two36 _ _ _ _ _ _) ?_
     rintro t47 S47 ⟨rfl, A47, c47, rfl⟩
     refine tb 2 rfl ?_
     refine AWH.done (by kernel_rfl) ?_
     refine AW.rseq ?_
     refine AWL.y rfl rfl (B rfl) (Yv.move rfl (E rfl rfl)) ?_
     refine AWL.y rfl rfl (B rfl) (Yv.nilChk rfl (E rfl rfl)) ?_
     refine AWL.y rfl rfl (B rfl) (Yv.fieldBox rfl fo_49_0 (E rfl rfl)) ?_
     refine AWL.y rfl rfl (B rfl) (Yv.loadBox rfl ag_24 (i := 1) rfl (E rfl rfl) rfl) ?_
     refine AWL.y rfl rfl (B rfl) (Yv.assign rfl (E rfl rfl)) ?_
     refine AWL.y rfl rfl (B rfl) (Yv.assign rfl (E rfl rfl)) ?_
     refine AWL.nil ?_
     refine AW.drop (List.take_sublist 1 _) ?_
     refine AW.ret (retI (.tmp rfl (.tmp rfl .nil)) ?_)
     rw [if_pos hval]
     refine enc_end ?_
     rw [enc0 (by rw [h13t]; rfl)]
     skip
     try simp only [List.append_assoc]
     rfl
    ·
     refine AWL.buildSlice1 rfl rfl (B rfl) rfl el_43 rfl (evsC (E rfl rfl) evs0) (Nat.le_of_ble_eq_true rfl) rfl rfl ?_
     refine tb 2 rfl ?_
     refine AWH.one (i := 5) (by kernel_rfl) rfl ?_
     refine AWL.call rfl rfl (B rfl) rfl ce_27 (E rfl rfl) (evsC (E rfl rfl) (evsC (E rfl rfl) (evsC (E rfl rfl) (evsC (E rfl rfl) evs0)))) (S1 := CB _ _ _ _) (S2 := [_]) rfl (rex34 _ _ _ _ _ _ _) ?_
     rintro t39 S39 ⟨rfl, A39, c39, rfl⟩
     refine tb 2 rfl ?_
     refine AWH.one (i := 8) (by kernel_rfl) rfl ?_
     refine AWL.call rfl rfl (B rfl) rfl ce_28 (E rfl rfl) (evsC (E rfl rfl) (evsC (E rfl rfl) evs0)) (S1 := CB _ _ _ _) (S2 := [_]) rfl (put35 _ _ _ _ [_]) ?_
     rintro t42 S42 ⟨rfl, A42, c42, rfl⟩
     refine tb 2 rfl ?_
     refine AWH.one (i := 13) (by kernel_rfl) rfl ?_
     refine AWL.call rfl rfl (B rfl) rfl ce_29 (E rfl rfl) (evsC (E rfl rfl) (evsC (E rfl rfl) (evsC (E rfl rfl) evs0))) (S1 := CB _ _ _ _) (S2 := [_]) rfl (two36 _ _ _ _ _ _) ?_
     rintro t47 S47 ⟨rfl, A47, c47, rfl⟩
     refine tb 2 rfl ?_
     refine AWH.done (by kernel_rfl) ?_
     refine AW.rseq ?_
     refine AWL.y rfl rfl (B rfl) (Yv.move rfl (E rfl rfl)) ?_
     refine AWL.y rfl rfl (B rfl) (Yv.nilChk rfl (E rfl rfl)) ?_
     refine AWL.y rfl rfl (B rfl) (Yv.fieldBox rfl fo_49_0 (E rfl rfl)) ?_
     refine AWL.y rfl rfl (B rfl) (Yv.loadBox rfl ag_24 (i := 1) rfl (E rfl rfl) rfl) ?_
     refine AWL.y rfl rfl (B rfl) (Yv.assign rfl (E rfl rfl)) ?_
     refine AWL.y rfl rfl (B rfl) (Yv.assign rfl (E rfl rfl)) ?_
     refine AWL.nil ?_
     refine AW.drop (List.take_sublist 1 _) ?_
     refine AW.ret (retI (.tmp rfl (.tmp rfl .nil)) ?_)
     rw [if_pos hval]
     refine enc_end ?_
     rw [enc0 (by rw [h13t]; rfl)]
     skip
     try simp only [List.append_assoc]
     rfl
   · exfalso; replace h14f := of_decide_eq_false h14f; omega
  try replace h13f := of_decide_eq_false h13f
  refine AW.rseq ?_
  refine AWL.y rfl rfl (B rfl) (Yv.eql rfl (E rfl rfl) (E rfl rfl)) ?_
  refine AWL.y rfl rfl (B rfl) (Yv.assign rfl (E rfl rfl)) ?_
  refine AWL.nil ?_
  refine AW.cond rfl (fun h15t => ?_) (fun h15f => ?_)
  ·
   try replace h15t := of_decide_eq_true h15t
   refine AW.skip ?_
   refine AW.cond rfl (fun h16t => ?_) (fun h16f => ?_)
   ·
    try replace h16t := of_decide_eq_true h16t
    refine AW.regionH (HeldBox b1 (insVals i)) rfl (tells_box (k := 2) rfl) ?_
    refine AWH.tk (i := 0) rfl rfl rfl (B rfl) (heldAll (freeMove rfl (E rfl rfl))) ?_
    refine AWH.tk (i := 1) rfl rfl rfl (B rfl) (heldAll (freeField rfl fo_23_2 (E rfl rfl))) ?_
    refine AWH.tk (i := 2) rfl rfl rfl (B rfl) (heldLoad rfl ag_3 (E rfl rfl) rfl) ?_
    refine AWH.tk (i := 3) rfl rfl rfl (B rfl) (heldAll (freeField rfl fo_23_1 (E rfl rfl))) ?_
    refine AWH.tk (i := 4) rfl rfl rfl (B rfl) (heldLoad rfl ag_3 (E rfl rfl) rfl) ?_
    refine AWH.tk (i := 6) rfl rfl rfl (B rfl) (heldAll (freeMove rfl (E rfl rfl))) ?_
    refine AWH.tk (i := 9) rfl rfl rfl (B rfl) (heldAll (freeField rfl fo_23_2 (E rfl rfl))) ?_
    refine AWH.tk (i := 10) rfl rfl rfl (B rfl) (heldLoad rfl ag_3 (E rfl rfl) rfl) ?_
    refine AWH.tk (i := 11) rfl rfl rfl (B rfl) (heldAll (freeField rfl fo_23_1 (E rfl rfl))) ?_
    refine AWH.tk (i := 12) rfl rfl rfl (B rfl) (heldLoad rfl ag_3 (E rfl rfl) rfl) ?_
    refine AWH.two (i := 5) (j := 7) (by kernel_rfl) rfl rfl ?_ ?_
    ·
     refine AWL.call rfl rfl (B rfl) rfl ce_27 (E rfl rfl) (evsC (E rfl rfl) (evsC (E rfl rfl) (evsC (E rfl rfl) (evsC (E rfl rfl) evs0)))) (S1 := CB _ _ _ _) (S2 := [_]) rfl (rex34 _ _ _ _ _ _ _) ?_
     rintro t39 S39 ⟨rfl, A39, c39, rfl⟩
     refine tb 2 rfl ?_
     refine AWH.one (i := 7) (by kernel_rfl) rfl ?_
     refine AWL.buildSlice1 rfl rfl (B rfl) rfl el_43 rfl (evsC (E rfl rfl) evs0) (Nat.le_of_ble_eq_true rfl) rfl rfl ?_
     refine tb 2 rfl ?_
     refine AWH.one (i := 8) (by kernel_rfl) rfl ?_
     refine AWL.call rfl rfl (B rfl) rfl ce_28 (E rfl rfl) (evsC (E rfl rfl) (evsC (E rfl rfl) evs0)) (S1 := CB _ _ _ _) (S2 := [_]) rfl (put35 _ _ _ _ [_]) ?_
     rintro t42 S42 ⟨rfl, A42, c42, rfl⟩
     refine tb 2 rfl ?_
     refine AWH.one (i := 13) (by kernel_rfl) rfl ?_
     refine AWL.call rfl rfl (B rfl) rfl ce_29 (E rfl rfl) (evsC (E rfl rfl) (evsC (E rfl rfl) (evsC (E rfl rfl) evs0))) (S1 := CB _ _ _ _) (S2 := [_]) rfl (two36 _ _ _ _ _ _) ?_
     rintro t47 S47 ⟨rfl, A47, c47, rfl⟩
     refine tb 2 rfl ?_
     refine AWH.done (by kernel_rfl) ?_
     refine AW.rseq ?_
     refine AWL.y rfl rfl (B rfl) (Yv.move rfl (E rfl rfl)) ?_
     refine AWL.y rfl rfl (B rfl) (Yv.nilChk rfl (E rfl rfl)) ?_
     refine AWL.y rfl rfl (B rfl) (Yv.fieldBox rfl fo_49_0 (E rfl rfl)) ?_
     refine AWL.y rfl rfl (B rfl) (Yv.loadBox rfl ag_24 (i := 1) rfl (E rfl rfl) rfl) ?_
     refine AWL.y rfl rfl (B rfl) (Yv.assign rfl (E rfl rfl)) ?_
     refine AWL.y rfl rfl (B rfl) (Yv.assign rfl (E rfl rfl)) ?_
     refine AWL.nil ?_
     refine AW.drop (List.take_sublist 1 _) ?_
     refine AW.ret (retI (.tmp rfl (.tmp rfl .nil)) ?_)
     rw [if_pos hval]
     refine enc_end ?_
     rw [enc0 (by rw [h15t]; rfl)]
     skip
     try simp only [List.append_assoc]
     rfl
    ·
     refine AWL.buildSlice1 rfl rfl (B rfl) rfl el_43 rfl (evsC (E rfl rfl) evs0) (Nat.le_of_ble_eq_true rfl) rfl rfl ?_
     refine tb 2 rfl ?_
     refine AWH.one (i := 5) (by kernel_rfl) rfl ?_
     refine AWL.call rfl rfl (B rfl) rfl ce_27 (E rfl rfl) (evsC (E rfl rfl) (evsC (E rfl rfl) (evsC (E rfl rfl) (evsC (E rfl rfl) evs0)))) (S1 := CB _ _ _ _) (S2 := [_]) rfl (rex34 _ _ _ _ _ _ _) ?_
     rintro t39 S39 ⟨rfl, A39, c39, rfl⟩
     refine tb 2 rfl ?_
     refine AWH.one (i := 8) (by kernel_rfl) rfl ?_
     refine AWL.call rfl rfl (B rfl) rfl ce_28 (E rfl rfl) (evsC (E rfl rfl) (evsC (E rfl rfl) evs0)) (S1 := CB _ _ _ _) (S2 := [_]) rfl (put35 _ _ _ _ [_]) ?_
     rintro t42 S42 ⟨rfl, A42, c42, rfl⟩
     refine tb 2 rfl ?_
     refine AWH.one (i := 13) (by kernel_rfl) rfl ?_
     refine AWL.call rfl rfl (B rfl) rfl ce_29 (E rfl rfl) (evsC (E rfl rfl) (evsC (E rfl rfl) (evsC (E rfl rfl) evs0))) (S1 := CB _ _ _ _) (S2 := [_]) rfl (two36 _ _ _ _ _ _) ?_
     rintro t47 S47 ⟨rfl, A47, c47, rfl⟩
     refine tb 2 rfl ?_
     refine AWH.done (by kernel_rfl) ?_
     refine AW.rseq ?_
     refine AWL.y rfl rfl (B rfl) (Yv.move rfl (E rfl rfl)) ?_
     refine AWL.y rfl rfl (B rfl) (Yv.nilChk rfl (E rfl rfl)) ?_
     refine AWL.y rfl rfl (B rfl) (Yv.fieldBox rfl fo_49_0 (E rfl rfl)) ?_
     refine AWL.y rfl rfl (B rfl) (Yv.loadBox rfl ag_24 (i := 1) rfl (E rfl rfl) rfl) ?_
     refine AWL.y rfl rfl (B rfl) (Yv.assign rfl (E rfl rfl)) ?_
     refine AWL.y rfl rfl (B rfl) (Yv.assign rfl (E rfl rfl)) ?_
     refine AWL.nil ?_
     refine AW.drop (List.take_sublist 1 _) ?_
     refine AW.ret (retI (.tmp rfl (.tmp rfl .nil)) ?_)
     rw [if_pos hval]
     refine enc_end ?_
     rw [enc0 (by rw [h15t]; rfl)]
     skip
     try simp only [List.append_assoc]
     rfl
   · exfalso; replace h16f := of_decide_eq_false h16f; omega
  try replace h15f := of_decide_eq_false h15f
  refine AW.rseq ?_
  refine AWL.y rfl rfl (B rfl) (Yv.eql rfl (E rfl rfl) (E rfl rfl)) ?_
  refine AWL.y rfl rfl (B rfl) (Yv.assign rfl (E rfl rfl)) ?_
  refine AWL.nil ?_
  refine AW.cond rfl (fun h17t => ?_) (fun h17f => ?_)
  ·
   try replace h17t := of_decide_eq_true h17t
   refine AW.skip ?_
   refine AW.cond rfl (fun h18t => ?_) (fun h18f => ?_)
   ·
    try replace h18t := of_decide_eq_true h18t
    refine AW.regionH (HeldBox b1 (insVals i)) rfl (tells_box (k := 2) rfl) ?_
    refine AWH.tk (i := 0) rfl rfl rfl (B rfl) (heldAll (freeMove rfl (E rfl rfl))) ?_
    refine AWH.tk (i := 1) rfl rfl rfl (B rfl) (heldAll (freeField rfl fo_23_2 (E rfl rfl))) ?_
    refine AWH.tk (i := 2) rfl rfl rfl (B rfl) (heldLoad rfl ag_3 (E rfl rfl) rfl) ?_
    refine AWH.tk (i := 3) rfl rfl rfl (B rfl) (heldAll (freeField rfl fo_23_1 (E rfl rfl))) ?_
    refine AWH.tk (i := 4) rfl rfl rfl (B rfl) (heldLoad rfl ag_3 (E rfl rfl) rfl) ?_
    refine AWH.tk (i := 6) rfl rfl rfl (B rfl) (heldAll (freeMove rfl (E rfl rfl))) ?_
    refine AWH.tk (i := 9) rfl rfl rfl (B rfl) (heldAll (freeField rfl fo_23_2 (E rfl rfl))) ?_
    refine AWH.tk (i := 10) rfl rfl rfl (B rfl) (heldLoad rfl ag_3 (E rfl rfl) rfl) ?_
    refine AWH.tk (i := 11) rfl rfl rfl (B rfl) (heldAll (freeField rfl fo_23_1 (E rfl rfl))) ?_
    refine AWH.tk (i := 12) rfl rfl rfl (B rfl) (heldLoad rfl ag_3 (E rfl rfl) rfl) ?_
    refine AWH.two (i := 5) (j := 7) (by kernel_rfl) rfl rfl ?_ ?_
    ·
     refine AWL.call rfl rfl (B rfl) rfl ce_27 (E rfl rfl) (evsC (E rfl rfl) (evsC (E rfl rfl) (evsC (E rfl rfl) (evsC (E rfl rfl) evs0)))) (S1 := CB _ _ _ _) (S2 := [_]) rfl (rex34 _ _ _ _ _ _ _) ?_
     rintro t39 S39 ⟨rfl, A39, c39, rfl⟩
     refine tb 2 rfl ?_
     refine AWH.one (i := 7) (by kernel_rfl) rfl ?_
     refine AWL.buildSlice1 rfl rfl (B rfl) rfl el_43 rfl (evsC (E rfl rfl) evs0) (Nat.le_of_ble_eq_true rfl) rfl rfl ?_
     refine tb 2 rfl ?_
     refine AWH.one (i := 8) (by kernel_rfl) rfl ?_
     refine AWL.call rfl rfl (B rfl) rfl ce_28 (E rfl rfl) (evsC (E rfl rfl) (evsC (E rfl rfl) evs0)) (S1 := CB _ _ _ _) (S2 := [_]) rfl (put35 _ _ _ _ [_]) ?_
     rintro t42 S42 ⟨rfl, A42, c42, rfl⟩
     refine tb 2 rfl ?_
     refine AWH.one (i := 13) (by kernel_rfl) rfl ?_
     refine AWL.call rfl rfl (B rfl) rfl ce_29 (E rfl rfl) (evsC (E rfl rfl) (evsC (E rfl rfl) (evsC (E rfl rfl) evs0))) (S1 := CB _ _ _ _) (S2 := [_]) rfl (two36 _ _ _ _ _ _) ?_
     rintro t47 S47 ⟨rfl, A47, c47, rfl⟩
     refine tb 2 rfl ?_
     refine AWH.done (by kernel_rfl) ?_
     refine AW.rseq ?_
     refine AWL.y rfl rfl (B rfl) (Yv.move rfl (E rfl rfl)) ?_
     refine AWL.y rfl rfl (B rfl) (Yv.nilChk rfl (E rfl rfl)) ?_
     refine AWL.y rfl rfl (B rfl) (Yv.fieldBox rfl fo_49_0 (E rfl rfl)) ?_
     refine AWL.y rfl rfl (B rfl) (Yv.loadBox rfl ag_24 (i := 1) rfl (E rfl rfl) rfl) ?_
     refine AWL.y rfl rfl (B rfl) (Yv.assign rfl (E rfl rfl)) ?_
     refine AWL.y rfl rfl (B rfl) (Yv.assign rfl (E rfl rfl)) ?_
     refine AWL.nil ?_
     refine AW.drop (List.take_sublist 1 _) ?_
     refine AW.ret (retI (.tmp rfl (.tmp rfl .nil)) ?_)
     rw [if_pos hval]
     refine enc_end ?_
     rw [enc0 (by rw [h17t]; rfl)]
     skip
     try simp only [List.append_assoc]
     rfl
    ·
     refine AWL.buildSlice1 rfl rfl (B rfl) rfl el_43 rfl (evsC (E rfl rfl) evs0) (Nat.le_of_ble_eq_true rfl) rfl rfl ?_
     refine tb 2 rfl ?_
     refine AWH.one (i := 5) (by kernel_rfl) rfl ?_
     refine AWL.call rfl rfl (B rfl) rfl ce_27 (E rfl rfl) (evsC (E rfl rfl) (evsC (E rfl rfl) (evsC (E rfl rfl) (evsC (E rfl rfl) evs0)))) (S1 := CB _ _ _ _) (S2 := [_]) rfl (rex34 _ _ _ _ _ _ _) ?_
     rintro t39 S39 ⟨rfl, A39, c39, rfl⟩
     refine tb 2 rfl ?_
     refine AWH.one (i := 8) (by kernel_rfl) rfl ?_
     refine AWL.call rfl rfl (B rfl) rfl ce_28 (E rfl rfl) (evsC (E rfl rfl) (evsC (E rfl rfl) evs0)) (S1 := CB _ _ _ _) (S2 := [_]) rfl (put35 _ _ _ _ [_]) ?_
     rintro t42 S42 ⟨rfl, A42, c42, rfl⟩
     refine tb 2 rfl ?_
     refine AWH.one (i := 13) (by kernel_rfl) rfl ?_
     refine AWL.call rfl rfl (B rfl) rfl ce_29 (E rfl rfl) (evsC (E rfl rfl) (evsC (E rfl rfl) (evsC (E rfl rfl) evs0))) (S1 := CB _ _ _ _) (S2 := [_]) rfl (two36 _ _ _ _ _ _) ?_
     rintro t47 S47 ⟨rfl, A47, c47, rfl⟩
     refine tb 2 rfl ?_
     refine AWH.done (by kernel_rfl) ?_
     refine AW.rseq ?_
     refine AWL.y rfl rfl (B rfl) (Yv.move rfl (E rfl rfl)) ?_
     refine AWL.y rfl rfl (B rfl) (Yv.nilChk rfl (E rfl rfl)) ?_
     refine AWL.y rfl rfl (B rfl) (Yv.fieldBox rfl fo_49_0 (E rfl rfl)) ?_
     refine AWL.y rfl rfl (B rfl) (Yv.loadBox rfl ag_24 (i := 1) rfl (E rfl rfl) rfl) ?_
     refine AWL.y rfl rfl (B rfl) (Yv.assign rfl (E rfl rfl)) ?_
     refine AWL.y rfl rfl (B rfl) (Yv.assign rfl (E rfl rfl)) ?_
     refine AWL.nil ?_
     refine AW.drop (List.take_sublist 1 _) ?_
     refine AW.ret (retI (.tmp rfl (.tmp rfl .nil)) ?_)
     rw [if_pos hval]
     refine enc_end ?_
     rw [enc0 (by rw [h17t]; rfl)]
     skip
     try simp only [List.append_assoc]
     rfl
   · exfalso; replace h18f := of_decide_eq_false h18f; omega
  try replace h17f := of_decide_eq_false h17f
  refine AW.region ?_
  refine AWL.y rfl rfl (B rfl) (Yv.eql rfl (E rfl rfl) (E rfl rfl)) ?_
  refine AWL.y rfl rfl (B rfl) (Yv.assign rfl (E rfl rfl)) ?_
  refine AWL.nil ?_
  refine AW.cond rfl (fun h19t => ?_) (fun h19f => ?_)
  ·
   try replace h19t := of_decide_eq_true h19t
   refine AW.regionH (HeldBox b1 (insVals i)) rfl (tells_box (k := 2) rfl) ?_
   refine AWH.tk (i := 0) rfl rfl rfl (B rfl) (heldAll (freeMove rfl (E rfl rfl))) ?_
   refine AWH.tk (i := 1) rfl rfl rfl (B rfl) (heldAll (freeField rfl fo_23_2 (E rfl rfl))) ?_
   refine AWH.tk (i := 2) rfl rfl rfl (B rfl) (heldLoad rfl ag_3 (E rfl rfl) rfl) ?_
   refine AWH.tk (i := 3) rfl rfl rfl (B rfl) (heldAll (freeField rfl fo_23_1 (E rfl rfl))) ?_
   refine AWH.tk (i := 4) rfl rfl rfl (B rfl) (heldLoad rfl ag_3 (E rfl rfl) rfl) ?_
   refine AWH.tk (i := 6) rfl rfl rfl (B rfl) (heldAll (freeMove rfl (E rfl rfl))) ?_
   refine AWH.tk (i := 9) rfl rfl rfl (B rfl) (heldAll (freeField rfl fo_23_2 (E rfl rfl))) ?_
   refine AWH.tk (i := 10) rfl rfl rfl (B rfl) (heldLoad rfl ag_3 (E rfl rfl) rfl) ?_
   refine AWH.tk (i := 11) rfl rfl rfl (B rfl) (heldAll (freeField rfl fo_23_1 (E rfl rfl))) ?_
   refine AWH.tk (i := 12) rfl rfl rfl (B rfl) (heldLoad rfl ag_3 (E rfl rfl) rfl) ?_
   refine AWH.two (i := 5) (j := 7) (by kernel_rfl) rfl rfl ?_ ?_
   ·
    refine AWL.call rfl rfl (B rfl) rfl ce_27 (E rfl rfl) (evsC (E rfl rfl) (evsC (E rfl rfl) (evsC (E rfl rfl) (evsC (E rfl rfl) evs0)))) (S1 := CB _ _ _ _) (S2 := [_]) rfl (rex34 _ _ _ _ _ _ _) ?_
    rintro t39 S39 ⟨rfl, A39, c39, rfl⟩
    refine tb 2 rfl ?_
    refine AWH.one (i := 7) (by kernel_rfl) rfl ?_
    refine AWL.buildSlice1 rfl rfl (B rfl) rfl el_43 rfl (evsC (E rfl rfl) evs0) (Nat.le_of_ble_eq_true rfl) rfl rfl ?_
    refine tb 2 rfl ?_
    refine AWH.one (i := 8) (by kernel_rfl) rfl ?_
    refine AWL.call rfl rfl (B rfl) rfl ce_28 (E rfl rfl) (evsC (E rfl rfl) (evsC (E rfl rfl) evs0)) (S1 := CB _ _ _ _) (S2 := [_]) rfl (put35 _ _ _ _ [_]) ?_
    rintro t42 S42 ⟨rfl, A42, c42, rfl⟩
    refine tb 2 rfl ?_
    refine AWH.one (i := 13) (by kernel_rfl) rfl ?_
    refine AWL.call rfl rfl (B rfl) rfl ce_29 (E rfl rfl) (evsC (E rfl rfl) (evsC (E rfl rfl) (evsC (E rfl rfl) evs0))) (S1 := CB _ _ _ _) (S2 := [_]) rfl (two36 _ _ _ _ _ _) ?_
    rintro t47 S47 ⟨rfl, A47, c47, rfl⟩
    refine tb 2 rfl ?_
    refine AWH.done (by kernel_rfl) ?_
    refine AW.rseq ?_
    refine AWL.y rfl rfl (B rfl) (Yv.move rfl (E rfl rfl)) ?_
    refine AWL.y rfl rfl (B rfl) (Yv.nilChk rfl (E rfl rfl)) ?_
    refine AWL.y rfl rfl (B rfl) (Yv.fieldBox rfl fo_49_0 (E rfl rfl)) ?_
    refine AWL.y rfl rfl (B rfl) (Yv.loadBox rfl ag_24 (i := 1) rfl (E rfl rfl) rfl) ?_
    refine AWL.y rfl rfl (B rfl) (Yv.assign rfl (E rfl rfl)) ?_
    refine AWL.y rfl rfl (B rfl) (Yv.assign rfl (E rfl rfl)) ?_
    refine AWL.nil ?_
    refine AW.drop (List.take_sublist 1 _) ?_
    refine AW.ret (retI (.tmp rfl (.tmp rfl .nil)) ?_)
    rw [if_pos hval]
    refine enc_end ?_
    rw [enc0 (by rw [h19t]; rfl)]
    skip
    try simp only [List.append_assoc]
    rfl
   ·
    refine AWL.buildSlice1 rfl rfl (B rfl) rfl el_43 rfl (evsC (E rfl rfl) evs0) (Nat.le_of_ble_eq_true rfl) rfl rfl ?_
    refine tb 2 rfl ?_
    refine AWH.one (i := 5) (by kernel_rfl) rfl ?_
    refine AWL.call rfl rfl (B rfl) rfl ce_27 (E rfl rfl) (evsC (E rfl rfl) (evsC (E rfl rfl) (evsC (E rfl rfl) (evsC (E rfl rfl) evs0)))) (S1 := CB _ _ _ _) (S2 := [_]) rfl (rex34 _ _ _ _ _ _ _) ?_
    rintro t39 S39 ⟨rfl, A39, c39, rfl⟩
    refine tb 2 rfl ?_
    refine AWH.one (i := 8) (by kernel_rfl) rfl ?_
    refine AWL.call rfl rfl (B rfl) rfl ce_28 (E rfl rfl) (evsC (E rfl rfl) (evsC (E rfl rfl) evs0)) (S1 := CB _ _ _ _) (S2 := [_]) rfl (put35 _ _ _ _ [_]) ?_
    rintro t42 S42 ⟨rfl, A42, c42, rfl⟩
    refine tb 2 rfl ?_
    refine AWH.one (i := 13) (by kernel_rfl) rfl ?_
    refine AWL.call rfl rfl (B rfl) rfl ce_29 (E rfl rfl) (evsC (E rfl rfl) (evsC (E rfl rfl) (evsC (E rfl rfl) evs0))) (S1 := CB _ _ _ _) (S2 := [_]) rfl (two36 _ _ _ _ _ _) ?_
    rintro t47 S47 ⟨rfl, A47, c47, rfl⟩
    refine tb 2 rfl ?_
    refine AWH.done (by kernel_rfl) ?_
    refine AW.rseq ?_
    refine AWL.y rfl rfl (B rfl) (Yv.move rfl (E rfl rfl)) ?_
    refine AWL.y rfl rfl (B rfl) (Yv.nilChk rfl (E rfl rfl)) ?_
    refine AWL.y rfl rfl (B rfl) (Yv.fieldBox rfl fo_49_0 (E rfl rfl)) ?_
    refine AWL.y rfl rfl (B rfl) (Yv.loadBox rfl ag_24 (i := 1) rfl (E rfl rfl) rfl) ?_
    refine AWL.y rfl rfl (B rfl) (Yv.assign rfl (E rfl rfl)) ?_
    refine AWL.y rfl rfl (B rfl) (Yv.assign rfl (E rfl rfl)) ?_
    refine AWL.nil ?_
    refine AW.drop (List.take_sublist 1 _) ?_
    refine AW.ret (retI (.tmp rfl (.tmp rfl .nil)) ?_)
    rw [if_pos hval]
    refine enc_end ?_
    rw [enc0 (by rw [h19t]; rfl)]
    skip
    try simp only [List.append_assoc]
    rfl
  try replace h19f := of_decide_eq_false h19f
  refine AW.seq ?_
  refine AW.rseq ?_
  refine AWL.y rfl rfl (B rfl) (Yv.eql rfl (E rfl rfl) (E rfl rfl)) ?_
  refine AWL.y rfl rfl (B rfl) (Yv.assign rfl (E rfl rfl)) ?_
  refine AWL.nil ?_
  refine AW.cond rfl (fun h20t => ?_) (fun h20f => ?_)
  ·
   try replace h20t := of_decide_eq_true h20t
   refine AW.skip ?_
   refine AW.cond rfl (fun h21t => ?_) (fun h21f => ?_)
   ·
    try replace h21t := of_decide_eq_true h21t
    refine AW.regionH (HeldBox b1 (insVals i)) rfl (tells_box (k := 2) rfl) ?_
    refine AWH.tk (i := 0) rfl rfl rfl (B rfl) (heldAll (freeMove rfl (E rfl rfl))) ?_
    refine AWH.tk (i := 1) rfl rfl rfl (B rfl) (heldAll (freeField rfl fo_23_1 (E rfl rfl))) ?_
    refine AWH.tk (i := 2) rfl rfl rfl (B rfl) (heldLoad rfl ag_3 (E rfl rfl) rfl) ?_
    refine AWH.tk (i := 4) rfl rfl rfl (B rfl) (heldAll (freeMove rfl (E rfl rfl))) ?_
    refine AWH.tk (i := 7) rfl rfl rfl (B rfl) (heldAll (freeMove rfl (E rfl rfl))) ?_
    refine AWH.tk (i := 8) rfl rfl rfl (B rfl) (heldAll (freeField rfl fo_23_1 (E rfl rfl))) ?_
    refine AWH.tk (i := 9) rfl rfl rfl (B rfl) (heldLoad rfl ag_3 (E rfl rfl) rfl) ?_
    refine AWH.tk (i := 11) rfl rfl rfl (B rfl) (heldAll (freeField rfl fo_23_5 (E rfl rfl))) ?_
    refine AWH.tk (i := 12) rfl rfl rfl (B rfl) (heldLoad rfl ag_2 (E rfl rfl) rfl) ?_
    refine AWH.two (i := 3) (j := 5) (by kernel_rfl) rfl rfl ?_ ?_
    ·
     refine AWL.call rfl rfl (B rfl) rfl ce_27 (E rfl rfl) (evsC (E rfl rfl) (evsC (E rfl rfl) (evsC (E rfl rfl) (evsC (E rfl rfl) evs0)))) (S1 := CB _ _ _ _) (S2 := [_]) rfl (rex34 _ _ _ _ _ _ _) ?_
     rintro t58 S58 ⟨rfl, A58, c58, rfl⟩
     refine tb 2 rfl ?_
     refine AWH.one (i := 5) (by kernel_rfl) rfl ?_
     refine AWL.buildSlice1 rfl rfl (B rfl) rfl el_43 rfl (evsC (E rfl rfl) evs0) (Nat.le_of_ble_eq_true rfl) rfl rfl ?_
     refine tb 2 rfl ?_
     refine AWH.one (i := 6) (by kernel_rfl) rfl ?_
     refine AWL.call rfl rfl (B rfl) rfl ce_28 (E rfl rfl) (evsC (E rfl rfl) (evsC (E rfl rfl) evs0)) (S1 := CB _ _ _ _) (S2 := [_]) rfl (put35 _ _ _ _ [_]) ?_
     rintro t61 S61 ⟨rfl, A61, c61, rfl⟩
     refine tb 2 rfl ?_
     refine AWH.one (i := 10) (by kernel_rfl) rfl ?_
     refine AWL.call rfl rfl (B rfl) rfl ce_29 (E rfl rfl) (evsC (E rfl rfl) (evsC (E rfl rfl) (evsC (E rfl rfl) evs0))) (S1 := CB _ _ _ _) (S2 := [_]) rfl (two36 _ _ _ _ _ _) ?_
     rintro t65 S65 ⟨rfl, A65, c65, rfl⟩
     refine tb 2 rfl ?_
     refine AWH.one (i := 13) (by kernel_rfl) rfl ?_
     refine AWL.call rfl rfl (B rfl) rfl ce_30 (E rfl rfl) (evsC (E rfl rfl) (evsC (E rfl rfl) (evsC (E rfl rfl) evs0))) (S1 := CB _ _ _ _) (S2 := [_]) rfl (imm37 _ _ _ _ _ 4) ?_
     rintro t68 S68 ⟨rfl, A68, c68, rfl⟩
     refine tb 2 rfl ?_
     refine AWH.done (by kernel_rfl) ?_
     refine AW.rseq ?_
     refine AWL.y rfl rfl (B rfl) (Yv.move rfl (E rfl rfl)) ?_
     refine AWL.y rfl rfl (B rfl) (Yv.nilChk rfl (E rfl rfl)) ?_
     refine AWL.y rfl rfl (B rfl) (Yv.fieldBox rfl fo_49_0 (E rfl rfl)) ?_
     refine AWL.y rfl rfl (B rfl) (Yv.loadBox rfl ag_24 (i := 1) rfl (E rfl rfl) rfl) ?_
     refine AWL.y rfl rfl (B rfl) (Yv.assign rfl (E rfl rfl)) ?_
     refine AWL.y rfl rfl (B rfl) (Yv.assign rfl (E rfl rfl)) ?_
     refine AWL.nil ?_
     refine AW.drop (List.take_sublist 1 _) ?_
     refine AW.ret (retI (.tmp rfl (.tmp rfl .nil)) ?_)
     rw [if_pos hval]
     refine enc_end ?_
     rw [enc1 (by rw [h20t]; rfl)]
     skip
     try simp only [List.append_assoc]
     rfl
    ·
     refine AWL.buildSlice1 rfl rfl (B rfl) rfl el_43 rfl (evsC (E rfl rfl) evs0) (Nat.le_of_ble_eq_true rfl) rfl rfl ?_
     refine tb 2 rfl ?_
     refine AWH.one (i := 3) (by kernel_rfl) rfl ?_
     refine AWL.call rfl rfl (B rfl) rfl ce_27 (E rfl rfl) (evsC (E rfl rfl) (evsC (E rfl rfl) (evsC (E rfl rfl) (evsC (E rfl rfl) evs0)))) (S1 := CB _ _ _ _) (S2 := [_]) rfl (rex34 _ _ _ _ _ _ _) ?_
     rintro t58 S58 ⟨rfl, A58, c58, rfl⟩
     refine tb 2 rfl ?_
     refine AWH.one (i := 6) (by kernel_rfl) rfl ?_
     refine AWL.call rfl rfl (B rfl) rfl ce_28 (E rfl rfl) (evsC (E rfl rfl) (evsC (E rfl rfl) evs0)) (S1 := CB _ _ _ _) (S2 := [_]) rfl (put35 _ _ _ _ [_]) ?_
     rintro t61 S61 ⟨rfl, A61, c61, rfl⟩
     refine tb 2 rfl ?_
     refine AWH.one (i := 10) (by kernel_rfl) rfl ?_
     refine AWL.call rfl rfl (B rfl) rfl ce_29 (E rfl rfl) (evsC (E rfl rfl) (evsC (E rfl rfl) (evsC (E rfl rfl) evs0))) (S1 := CB _ _ _ _) (S2 := [_]) rfl (two36 _ _ _ _ _ _) ?_
     rintro t65 S65 ⟨rfl, A65, c65, rfl⟩
     refine tb 2 rfl ?_
     refine AWH.one (i := 13) (by kernel_rfl) rfl ?_
     refine AWL.call rfl rfl (B rfl) rfl ce_30 (E rfl rfl) (evsC (E rfl rfl) (evsC (E rfl rfl) (evsC (E rfl rfl) evs0))) (S1 := CB _ _ _ _) (S2 := [_]) rfl (imm37 _ _ _ _ _ 4) ?_
     rintro t68 S68 ⟨rfl, A68, c68, rfl⟩
     refine tb 2 rfl ?_
     refine AWH.done (by kernel_rfl) ?_
     refine AW.rseq ?_
     refine AWL.y rfl rfl (B rfl) (Yv.move rfl (E rfl rfl)) ?_
     refine AWL.y rfl rfl (B rfl) (Yv.nilChk rfl (E rfl rfl)) ?_
     refine AWL.y rfl rfl (B rfl) (Yv.fieldBox rfl fo_49_0 (E rfl rfl)) ?_
     refine AWL.y rfl rfl (B rfl) (Yv.loadBox rfl ag_24 (i := 1) rfl (E rfl rfl) rfl) ?_
     refine AWL.y rfl rfl (B rfl) (Yv.assign rfl (E rfl rfl)) ?_
     refine AWL.y rfl rfl (B rfl) (Yv.assign rfl (E rfl rfl)) ?_
     refine AWL.nil ?_
     refine AW.drop (List.take_sublist 1 _) ?_
     refine AW.ret (retI (.tmp rfl (.tmp rfl .nil)) ?_)
     rw [if_pos hval]
     refine enc_end ?_
     rw [enc1 (by rw [h20t]; rfl)]
     skip
     try simp only [List.append_assoc]
     rfl
   · exfalso; replace h21f := of_decide_eq_false h21f; omega
  try replace h20f := of_decide_eq_false h20f
  refine AW.rseq ?_
  refine AWL.y rfl rfl (B rfl) (Yv.eql rfl (E rfl rfl) (E rfl rfl)) ?_
  refine AWL.y rfl rfl (B rfl) (Yv.assign rfl (E rfl rfl)) ?_
  refine AWL.nil ?_
  refine AW.cond rfl (fun h22t => ?_) (fun h22f => ?_)
  ·
   try replace h22t := of_decide_eq_true h22t
   refine AW.skip ?_
   refine AW.cond rfl (fun h23t => ?_) (fun h23f => ?_)
   ·
    try replace h23t := of_decide_eq_true h23t
    refine AW.regionH (HeldBox b1 (insVals i)) rfl (tells_box (k := 2) rfl) ?_
    refine AWH.tk (i := 0) rfl rfl rfl (B rfl) (heldAll (freeMove rfl (E rfl rfl))) ?_
    refine AWH.tk (i := 1) rfl rfl rfl (B rfl) (heldAll (freeField rfl fo_23_1 (E rfl rfl))) ?_
    refine AWH.tk (i := 2) rfl rfl rfl (B rfl) (heldLoad rfl ag_3 (E rfl rfl) rfl) ?_
    refine AWH.tk (i := 4) rfl rfl rfl (B rfl) (heldAll (freeMove rfl (E rfl rfl))) ?_
    refine AWH.tk (i := 7) rfl rfl rfl (B rfl) (heldAll (freeMove rfl (E rfl rfl))) ?_
    refine AWH.tk (i := 8) rfl rfl rfl (B rfl) (heldAll (freeField rfl fo_23_1 (E rfl rfl))) ?_
    refine AWH.tk (i := 9) rfl rfl rfl (B rfl) (heldLoad rfl ag_3 (E rfl rfl) rfl) ?_
    refine AWH.tk (i := 11) rfl rfl rfl (B rfl) (heldAll (freeField rfl fo_23_5 (E rfl rfl))) ?_
    refine AWH.tk (i := 12) rfl rfl rfl (B rfl) (heldLoad rfl ag_2 (E rfl rfl) rfl) ?_
    refine AWH.two (i := 3) (j := 5) (by kernel_rfl) rfl rfl ?_ ?_
    ·
     refine AWL.call rfl rfl (B rfl) rfl ce_27 (E rfl rfl) (evsC (E rfl rfl) (evsC (E rfl rfl) (evsC (E rfl rfl) (evsC (E rfl rfl) evs0)))) (S1 := CB _ _ _ _) (S2 := [_]) rfl (rex34 _ _ _ _ _ _ _) ?_
     rintro t58 S58 ⟨rfl, A58, c58, rfl⟩
     refine tb 2 rfl ?_
     refine AWH.one (i := 5) (by kernel_rfl) rfl ?_
     refine AWL.buildSlice1 rfl rfl (B rfl) rfl el_43 rfl (evsC (E rfl rfl) evs0) (Nat.le_of_ble_eq_true rfl) rfl rfl ?_
     refine tb 2 rfl ?_
     refine AWH.one (i := 6) (by kernel_rfl) rfl ?_
     refine AWL.call rfl rfl (B rfl) rfl ce_28 (E rfl rfl) (evsC (E rfl rfl) (evsC (E rfl rfl) evs0)) (S1 := CB _ _ _ _) (S2 := [_]) rfl (put35 _ _ _ _ [_]) ?_
     rintro t61 S61 ⟨rfl, A61, c61, rfl⟩
     refine tb 2 rfl ?_
     refine AWH.one (i := 10) (by kernel_rfl) rfl ?_
     refine AWL.call rfl rfl (B rfl) rfl ce_29 (E rfl rfl) (evsC (E rfl rfl) (evsC (E rfl rfl) (evsC (E rfl rfl) evs0))) (S1 := CB _ _ _ _) (S2 := [_]) rfl (two36 _ _ _ _ _ _) ?_
     rintro t65 S65 ⟨rfl, A65, c65, rfl⟩
     refine tb 2 rfl ?_
     refine AWH.one (i := 13) (by kernel_rfl) rfl ?_
     refine AWL.call rfl rfl (B rfl) rfl ce_30 (E rfl rfl) (evsC (E rfl rfl) (evsC (E rfl rfl) (evsC (E rfl rfl) evs0))) (S1 := CB _ _ _ _) (S2 := [_]) rfl (imm37 _ _ _ _ _ 4) ?_
     rintro t68 S68 ⟨rfl, A68, c68, rfl⟩
     refine tb 2 rfl ?_
     refine AWH.done (by kernel_rfl) ?_
     refine AW.rseq ?_
     refine AWL.y rfl rfl (B rfl) (Yv.move rfl (E rfl rfl)) ?_
     refine AWL.y rfl rfl (B rfl) (Yv.nilChk rfl (E rfl rfl)) ?_
     refine AWL.y rfl rfl (B rfl) (Yv.fieldBox rfl fo_49_0 (E rfl rfl)) ?_
     refine AWL.y rfl rfl (B rfl) (Yv.loadBox rfl ag_24 (i := 1) rfl (E rfl rfl) rfl) ?_
     refine AWL.y rfl rfl (B rfl) (Yv.assign rfl (E rfl rfl)) ?_
     refine AWL.y rfl rfl (B rfl) (Yv.assign rfl (E rfl rfl)) ?_
     refine AWL.nil ?_
     refine AW.drop (List.take_sublist 1 _) ?_
     refine AW.ret (retI (.tmp rfl (.tmp rfl .nil)) ?_)
     rw [if_pos hval]
     refine enc_end ?_
     rw [enc1 (by rw [h22t]; rfl)]
     skip
     try simp only [List.append_assoc]
     rfl
    ·
     refine AWL.buildSlice1 rfl rfl (B rfl) rfl el_43 rfl (evsC (E rfl rfl) evs0) (Nat.le_of_ble_eq_true rfl) rfl rfl ?_
     refine tb 2 rfl ?_
     refine AWH.one (i := 3) (by kernel_rfl) rfl ?_
     refine AWL.call rfl rfl (B rfl) rfl ce_27 (E rfl rfl) (evsC (E rfl rfl) (evsC (E rfl rfl) (evsC (E rfl rfl) (evsC (E rfl rfl) evs0)))) (S1 := CB _ _ _ _) (S2 := [_]) rfl (rex34 _ _ _ _ _ _ _) ?_
     rintro t58 S58 ⟨rfl, A58, c58, rfl⟩
     refine tb 2 rfl ?_
     refine AWH.one (i := 6) (by kernel_rfl) rfl ?_
     refine AWL.call rfl rfl (B rfl) rfl ce_28 (E rfl rfl) (evsC (E rfl rfl) (evsC (E rfl rfl) evs0)) (S1 := CB _ _ _ _) (S2 := [_]) rfl (put35 _ _ _ _ [_]) ?_
     rintro t61 S61 ⟨rfl, A61, c61, rfl⟩
     refine tb 2 rfl ?_
     refine AWH.one (i := 10) (by kernel_rfl) rfl ?_
     refine AWL.call rfl rfl (B rfl) rfl ce_29 (E rfl rfl) (evsC (E rfl rfl) (evsC (E rfl rfl) (evsC (E rfl rfl) evs0))) (S1 := CB _ _ _ _) (S2 := [_]) rfl (two36 _ _ _ _ _ _) ?_
     rintro t65 S65 ⟨rfl, A65, c65, rfl⟩
     refine tb 2 rfl ?_
     refine AWH.one (i := 13) (by kernel_rfl) rfl ?_
     refine AWL.call rfl rfl (B rfl) rfl ce_30 (E rfl rfl) (evsC (E rfl rfl) (evsC (E rfl rfl) (evsC (E rfl rfl) evs0))) (S1 := CB _ _ _ _) (S2 := [_]) rfl (imm37 _ _ _ _ _ 4) ?_
     rintro t68 S68 ⟨rfl, A68, c68, rfl⟩
     refine tb 2 rfl ?_
     refine AWH.done (by kernel_rfl) ?_
     refine AW.rseq ?_
     refine AWL.y rfl rfl (B rfl) (Yv.move rfl (E rfl rfl)) ?_
     refine AWL.y rfl rfl (B rfl) (Yv.nilChk rfl (E rfl rfl)) ?_
     refine AWL.y rfl rfl (B rfl) (Yv.fieldBox rfl fo_49_0 (E rfl rfl)) ?_
     refine AWL.y rfl rfl (B rfl) (Yv.loadBox rfl ag_24 (i := 1) rfl (E rfl rfl) rfl) ?_
     refine AWL.y rfl rfl (B rfl) (Yv.assign rfl (E rfl rfl)) ?_
     refine AWL.y rfl rfl (B rfl) (Yv.assign rfl (E rfl rfl)) ?_
     refine AWL.nil ?_
     refine AW.drop (List.take_sublist 1 _) ?_
     refine AW.ret (retI (.tmp rfl (.tmp rfl .nil)) ?_)
     rw [if_pos hval]
     refine enc_end ?_
     rw [enc1 (by rw [h22t]; rfl)]
     skip
     try simp only [List.append_assoc]
     rfl
   · exfalso; replace h23f := of_decide_eq_false h23f; omega
  try replace h22f := of_decide_eq_false h22f
  refine AW.rseq ?_
  refine AWL.y rfl rfl (B rfl) (Yv.eql rfl (E rfl rfl) (E rfl rfl)) ?_
  refine AWL.y rfl rfl (B rfl) (Yv.assign rfl (E rfl rfl)) ?_
  refine AWL.nil ?_
  refine AW.cond rfl (fun h24t => ?_) (fun h24f => ?_)
  ·
   try replace h24t := of_decide_eq_true h24t
   refine AW.skip ?_
   refine AW.cond rfl (fun h25t => ?_) (fun h25f => ?_)
   ·
    try replace h25t := of_decide_eq_true h25t
    refine AW.regionH (HeldBox b1 (insVals i)) rfl (tells_box (k := 2) rfl) ?_
    refine AWH.tk (i := 0) rfl rfl rfl (B rfl) (heldAll (freeMove rfl (E rfl rfl))) ?_
    refine AWH.tk (i := 1) rfl rfl rfl (B rfl) (heldAll (freeField rfl fo_23_1 (E rfl rfl))) ?_
    refine AWH.tk (i := 2) rfl rfl rfl (B rfl) (heldLoad rfl ag_3 (E rfl rfl) rfl) ?_
    refine AWH.tk (i := 4) rfl rfl rfl (B rfl) (heldAll (freeMove rfl (E rfl rfl))) ?_
    refine AWH.tk (i := 7) rfl rfl rfl (B rfl) (heldAll (freeMove rfl (E rfl rfl))) ?_
    refine AWH.tk (i := 8) rfl rfl rfl (B rfl) (heldAll (freeField rfl fo_23_1 (E rfl rfl))) ?_
    refine AWH.tk (i := 9) rfl rfl rfl (B rfl) (heldLoad rfl ag_3 (E rfl rfl) rfl) ?_
    refine AWH.tk (i := 11) rfl rfl rfl (B rfl) (heldAll (freeField rfl fo_23_5 (E rfl rfl))) ?_
    refine AWH.tk (i := 12) rfl rfl rfl (B rfl) (heldLoad rfl ag_2 (E rfl rfl) rfl) ?_
    refine AWH.two (i := 3) (j := 5) (by kernel_rfl) rfl rfl ?_ ?_
    ·
     refine AWL.call rfl rfl (B rfl) rfl ce_27 (E rfl rfl) (evsC (E rfl rfl) (evsC (E rfl rfl) (evsC (E rfl rfl) (evsC (E rfl rfl) evs0)))) (S1 := CB _ _ _ _) (S2 := [_]) rfl (rex34 _ _ _ _ _ _ _) ?_
     rintro t58 S58 ⟨rfl, A58, c58, rfl⟩
     refine tb 2 rfl ?_
     refine AWH.one (i := 5) (by kernel_rfl) rfl ?_
     refine AWL.buildSlice1 rfl rfl (B rfl) rfl el_43 rfl (evsC (E rfl rfl) evs0) (Nat.le_of_ble_eq_true rfl) rfl rfl ?_
     refine tb 2 rfl ?_
     refine AWH.one (i := 6) (by kernel_rfl) rfl ?_
     refine AWL.call rfl rfl (B rfl) rfl ce_28 (E rfl rfl) (evsC (E rfl rfl) (evsC (E rfl rfl) evs0)) (S1 := CB _ _ _ _) (S2 := [_]) rfl (put35 _ _ _ _ [_]) ?_
     rintro t61 S61 ⟨rfl, A61, c61, rfl⟩
     refine tb 2 rfl ?_
     refine AWH.one (i := 10) (by kernel_rfl) rfl ?_
     refine AWL.call rfl rfl (B rfl) rfl ce_29 (E rfl rfl) (evsC (E rfl rfl) (evsC (E rfl rfl) (evsC (E rfl rfl) evs0))) (S1 := CB _ _ _ _) (S2 := [_]) rfl (two36 _ _ _ _ _ _) ?_
     rintro t65 S65 ⟨rfl, A65, c65, rfl⟩
     refine tb 2 rfl ?_
     refine AWH.one (i := 13) (by kernel_rfl) rfl ?_
     refine AWL.call rfl rfl (B rfl) rfl ce_30 (E rfl rfl) (evsC (E rfl rfl) (evsC (E rfl rfl) (evsC (E rfl rfl) evs0))) (S1 := CB _ _ _ _) (S2 := [_]) rfl (imm37 _ _ _ _ _ 4) ?_
     rintro t68 S68 ⟨rfl, A68, c68, rfl⟩
     refine tb 2 rfl ?_
     refine AWH.done (by kernel_rfl) ?_
     refine AW.rseq ?_
     refine AWL.y rfl rfl (B rfl) (Yv.move rfl (E rfl rfl)) ?_
     refine AWL.y rfl rfl (B rfl) (Yv.nilChk rfl (E rfl rfl)) ?_
     refine AWL.y rfl rfl (B rfl) (Yv.fieldBox rfl fo_49_0 (E rfl rfl)) ?_
     refine AWL.y rfl rfl (B rfl) (Yv.loadBox rfl ag_24 (i := 1) rfl (E rfl rfl) rfl) ?_
     refine AWL.y rfl rfl (B rfl) (Yv.assign rfl (E rfl rfl)) ?_
     refine AWL.y rfl rfl (B rfl) (Yv.assign rfl (E rfl rfl)) ?_
     refine AWL.nil ?_
     refine AW.drop (List.take_sublist 1 _) ?_
     refine AW.ret (retI (.tmp rfl (.tmp rfl .nil)) ?_)
     rw [if_pos hval]
     refine enc_end ?_
     rw [enc1 (by rw [h24t]; rfl)]
     skip
     try simp only [List.append_assoc]
     rfl
    ·
     refine AWL.buildSlice1 rfl rfl (B rfl) rfl el_43 rfl (evsC (E rfl rfl) evs0) (Nat.le_of_ble_eq_true rfl) rfl rfl ?_
     refine tb 2 rfl ?_
     refine AWH.one (i := 3) (by kernel_rfl) rfl ?_
     refine AWL.call rfl rfl (B rfl) rfl ce_27 (E rfl rfl) (evsC (E rfl rfl) (evsC (E rfl rfl) (evsC (E rfl rfl) (evsC (E rfl rfl) evs0)))) (S1 := CB _ _ _ _) (S2 := [_]) rfl (rex34 _ _ _ _ _ _ _) ?_
     rintro t58 S58 ⟨rfl, A58, c58, rfl⟩
     refine tb 2 rfl ?_
     refine AWH.one (i := 6) (by kernel_rfl) rfl ?_
     refine AWL.call rfl rfl (B rfl) rfl ce_28 (E rfl rfl) (evsC (E rfl rfl) (evsC (E rfl rfl) evs0)) (S1 := CB _ _ _ _) (S2 := [_]) rfl (put35 _ _ _ _ [_]) ?_
     rintro t61 S61 ⟨rfl, A61, c61, rfl⟩
     refine tb 2 rfl ?_
     refine AWH.one (i := 10) (by kernel_rfl) rfl ?_
     refine AWL.call rfl rfl (B rfl) rfl ce_29 (E rfl rfl) (evsC (E rfl rfl) (evsC (E rfl rfl) (evsC (E rfl rfl) evs0))) (S1 := CB _ _ _ _) (S2 := [_]) rfl (two36 _ _ _ _ _ _) ?_
     rintro t65 S65 ⟨rfl, A65, c65, rfl⟩
     refine tb 2 rfl ?_
     refine AWH.one (i := 13) (by kernel_rfl) rfl ?_
     refine AWL.call rfl rfl (B rfl) rfl ce_30 (E rfl rfl) (evsC (E rfl rfl) (evsC (E rfl rfl) (evsC (E rfl rfl) evs0))) (S1 := CB _ _ _ _) (S2 := [_]) rfl (imm37 _ _ _ _ _ 4) ?_
     rintro t68 S68 ⟨rfl, A68, c68, rfl⟩
     refine tb 2 rfl ?_
     refine AWH.done (by kernel_rfl) ?_
     refine AW.rseq ?_
     refine AWL.y rfl rfl (B rfl) (Yv.move rfl (E rfl rfl)) ?_
     refine AWL.y rfl rfl (B rfl) (Yv.nilChk rfl (E rfl rfl)) ?_
     refine AWL.y rfl rfl (B rfl) (Yv.fieldBox rfl fo_49_0 (E rfl rfl)) ?_
     refine AWL.y rfl rfl (B rfl) (Yv.loadBox rfl ag_24 (i := 1) rfl (E rfl rfl) rfl) ?_
     refine AWL.y rfl rfl (B rfl) (Yv.assign rfl (E rfl rfl)) ?_
     refine AWL.y rfl rfl (B rfl) (Yv.assign rfl (E rfl rfl)) ?_
     refine AWL.nil ?_
     refine AW.drop (List.take_sublist 1 _) ?_
     refine AW.ret (retI (.tmp rfl (.tmp rfl .nil)) ?_)
     rw [if_pos hval]
     refine enc_end ?_
     rw [enc1 (by rw [h24t]; rfl)]
     skip
     try simp only [List.append_assoc]
     rfl
   · exfalso; replace h25f := of_decide_eq_false h25f; omega
  try replace h24f := of_decide_eq_false h24f
  refine AW.rseq ?_
  refine AWL.y rfl rfl (B rfl) (Yv.eql rfl (E rfl rfl) (E rfl rfl)) ?_
  refine AWL.y rfl rfl (B rfl) (Yv.assign rfl (E rfl rfl)) ?_
  refine AWL.nil ?_
  refine AW.cond rfl (fun h26t => ?_) (fun h26f => ?_)
  ·
   try replace h26t := of_decide_eq_true h26t
   refine AW.skip ?_
   refine AW.cond rfl (fun h27t => ?_) (fun h27f => ?_)
   ·
    try replace h27t := of_decide_eq_true h27t
    refine AW.regionH (HeldBox b1 (insVals i)) rfl (tells_box (k := 2) rfl) ?_
    refine AWH.tk (i := 0) rfl rfl rfl (B rfl) (heldAll (freeMove rfl (E rfl rfl))) ?_
    refine AWH.tk (i := 1) rfl rfl rfl (B rfl) (heldAll (freeField rfl fo_23_1 (E rfl rfl))) ?_
    refine AWH.tk (i := 2) rfl rfl rfl (B rfl) (heldLoad rfl ag_3 (E rfl rfl) rfl) ?_
    refine AWH.tk (i := 4) rfl rfl rfl (B rfl) (heldAll (freeMove rfl (E rfl rfl))) ?_
    refine AWH.tk (i := 7) rfl rfl rfl (B rfl) (heldAll (freeMove rfl (E rfl rfl))) ?_
    refine AWH.tk (i := 8) rfl rfl rfl (B rfl) (heldAll (freeField rfl fo_23_1 (E rfl rfl))) ?_
    refine AWH.tk (i := 9) rfl rfl rfl (B rfl) (heldLoad rfl ag_3 (E rfl rfl) rfl) ?_
    refine AWH.tk (i := 11) rfl rfl rfl (B rfl) (heldAll (freeField rfl fo_23_5 (E rfl rfl))) ?_
    refine AWH.tk (i := 12) rfl rfl rfl (B rfl) (heldLoad rfl ag_2 (E rfl rfl) rfl) ?_
    refine AWH.two (i := 3) (j := 5) (by kernel_rfl) rfl rfl ?_ ?_
    ·
     refine AWL.call rfl rfl (B rfl) rfl ce_27 (E rfl rfl) (evsC (E rfl rfl) (evsC (E rfl rfl) (evsC (E rfl rfl) (evsC (E rfl rfl) evs0)))) (S1 := CB _ _ _ _) (S2 := [_]) rfl (rex34 _ _ _ _ _ _ _) ?_
     rintro t58 S58 ⟨rfl, A58, c58, rfl⟩
     refine tb 2 rfl ?_
     refine AWH.one (i := 5) (by kernel_rfl) rfl ?_
     refine AWL.buildSlice1 rfl rfl (B rfl) rfl el_43 rfl (evsC (E rfl rfl) evs0) (Nat.le_of_ble_eq_true rfl) rfl rfl ?_
     refine tb 2 rfl ?_
     refine AWH.one (i := 6) (by kernel_rfl) rfl ?_
     refine AWL.call rfl rfl (B rfl) rfl ce_28 (E rfl rfl) (evsC (E rfl rfl) (evsC (E rfl rfl) evs0)) (S1 := CB _ _ _ _) (S2 := [_]) rfl (put35 _ _ _ _ [_]) ?_
     rintro t61 S61 ⟨rfl, A61, c61, rfl⟩
     refine tb 2 rfl ?_
     refine AWH.one (i := 10) (by kernel_rfl) rfl ?_
     refine AWL.call rfl rfl (B rfl) rfl ce_29 (E rfl rfl) (evsC (E rfl rfl) (evsC (E rfl rfl) (evsC (E rfl rfl) evs0))) (S1 := CB _ _ _ _) (S2 := [_]) rfl (two36 _ _ _ _ _ _) ?_
     rintro t65 S65 ⟨rfl, A65, c65, rfl⟩
     refine tb 2 rfl ?_
     refine AWH.one (i := 13) (by kernel_rfl) rfl ?_
     refine AWL.call rfl rfl (B rfl) rfl ce_30 (E rfl rfl) (evsC (E rfl rfl) (evsC (E rfl rfl) (evsC (E rfl rfl) evs0))) (S1 := CB _ _ _ _) (S2 := [_]) rfl (imm37 _ _ _ _ _ 4) ?_
     rintro t68 S68 ⟨rfl, A68, c68, rfl⟩
     refine tb 2 rfl ?_
     refine AWH.done (by kernel_rfl) ?_
     refine AW.rseq ?_
     refine AWL.y rfl rfl (B rfl) (Yv.move rfl (E rfl rfl)) ?_
     refine AWL.y rfl rfl (B rfl) (Yv.nilChk rfl (E rfl rfl)) ?_
     refine AWL.y rfl rfl (B rfl) (Yv.fieldBox rfl fo_49_0 (E rfl rfl)) ?_
     refine AWL.y rfl rfl (B rfl) (Yv.loadBox rfl ag_24 (i := 1) rfl (E rfl rfl) rfl) ?_
     refine AWL.y rfl rfl (B rfl) (Yv.assign rfl (E rfl rfl)) ?_
     refine AWL.y rfl rfl (B rfl) (Yv.assign rfl (E rfl rfl)) ?_
     refine AWL.nil ?_
     refine AW.drop (List.take_sublist 1 _) ?_
     refine AW.ret (retI (.tmp rfl (.tmp rfl .nil)) ?_)
     rw [if_pos hval]
     refine enc_end ?_
     rw [enc1 (by rw [h26t]; rfl)]
     skip
     try simp only [List.append_assoc]
     rfl
    ·
     refine AWL.buildSlice1 rfl rfl (B rfl) rfl el_43 rfl (evsC (E rfl rfl) evs0) (Nat.le_of_ble_eq_true rfl) rfl rfl ?_
     refine tb 2 rfl ?_
     refine AWH.one (i := 3) (by kernel_rfl) rfl ?_
     refine AWL.call rfl rfl (B rfl) rfl ce_27 (E rfl rfl) (evsC (E rfl rfl) (evsC (E rfl rfl) (evsC (E rfl rfl) (evsC (E rfl rfl) evs0)))) (S1 := CB _ _ _ _) (S2 := [_]) rfl (rex34 _ _ _ _ _ _ _) ?_
     rintro t58 S58 ⟨rfl, A58, c58, rfl⟩
     refine tb 2 rfl ?_
     refine AWH.one (i := 6) (by kernel_rfl) rfl ?_
     refine AWL.call rfl rfl (B rfl) rfl ce_28 (E rfl rfl) (evsC (E rfl rfl) (evsC (E rfl rfl) evs0)) (S1 := CB _ _ _ _) (S2 := [_]) rfl (put35 _ _ _ _ [_]) ?_
     rintro t61 S61 ⟨rfl, A61, c61, rfl⟩
     refine tb 2 rfl ?_
     refine AWH.one (i := 10) (by kernel_rfl) rfl ?_
     refine AWL.call rfl rfl (B rfl) rfl ce_29 (E rfl rfl) (evsC (E rfl rfl) (evsC (E rfl rfl) (evsC (E rfl rfl) evs0))) (S1 := CB _ _ _ _) (S2 := [_]) rfl (two36 _ _ _ _ _ _) ?_
     rintro t65 S65 ⟨rfl, A65, c65, rfl⟩
     refine tb 2 rfl ?_
     refine AWH.one (i := 13) (by kernel_rfl) rfl ?_
     refine AWL.call rfl rfl (B rfl) rfl ce_30 (E rfl rfl) (evsC (E rfl rfl) (evsC (E rfl rfl) (evsC (E rfl rfl) evs0))) (S1 := CB _ _ _ _) (S2 := [_]) rfl (imm37 _ _ _ _ _ 4) ?_
     rintro t68 S68 ⟨rfl, A68, c68, rfl⟩
     refine tb 2 rfl ?_
     refine AWH.done (by kernel_rfl) ?_
     refine AW.rseq ?_
     refine AWL.y rfl rfl (B rfl) (Yv.move rfl (E rfl rfl)) ?_
     refine AWL.y rfl rfl (B rfl) (Yv.nilChk rfl (E rfl rfl)) ?_
     refine AWL.y rfl rfl (B rfl) (Yv.fieldBox rfl fo_49_0 (E rfl rfl)) ?_
     refine AWL.y rfl rfl (B rfl) (Yv.loadBox rfl ag_24 (i := 1) rfl (E rfl rfl) rfl) ?_
     refine AWL.y rfl rfl (B rfl) (Yv.assign rfl (E rfl rfl)) ?_
     refine AWL.y rfl rfl (B rfl) (Yv.assign rfl (E rfl rfl)) ?_
     refine AWL.nil ?_
     refine AW.drop (List.take_sublist 1 _) ?_
     refine AW.ret (retI (.tmp rfl (.tmp rfl .nil)) ?_)
     rw [if_pos hval]
     refine enc_end ?_
     rw [enc1 (by rw [h26t]; rfl)]
     skip
     try simp only [List.append_assoc]
     rfl
   · exfalso; replace h27f := of_decide_eq_false h27f; omega
  try replace h26f := of_decide_eq_false h26f
  refine AW.rseq ?_
  refine AWL.y rfl rfl (B rfl) (Yv.eql rfl (E rfl rfl) (E rfl rfl)) ?_
  refine AWL.y rfl rfl (B rfl) (Yv.assign rfl (E rfl rfl)) ?_
  refine AWL.nil ?_
  refine AW.cond rfl (fun h28t => ?_) (fun h28f => ?_)
  ·
   try replace h28t := of_decide_eq_true h28t
   refine AW.skip ?_
   refine AW.cond rfl (fun h29t => ?_) (fun h29f => ?_)
   ·
    try replace h29t := of_decide_eq_true h29t
    refine AW.regionH (HeldBox b1 (insVals i)) rfl (tells_box (k := 2) rfl) ?_
    refine AWH.tk (i := 0) rfl rfl rfl (B rfl) (heldAll (freeMove rfl (E rfl rfl))) ?_
    refine AWH.tk (i := 1) rfl rfl rfl (B rfl) (heldAll (freeField rfl fo_23_1 (E rfl rfl))) ?_
    refine AWH.tk (i := 2) rfl rfl rfl (B rfl) (heldLoad rfl ag_3 (E rfl rfl) rfl) ?_
    refine AWH.tk (i := 4) rfl rfl rfl (B rfl) (heldAll (freeMove rfl (E rfl rfl))) ?_
    refine AWH.tk (i := 7) rfl rfl rfl (B rfl) (heldAll (freeMove rfl (E rfl rfl))) ?_
    refine AWH.tk (i := 8) rfl rfl rfl (B rfl) (heldAll (freeField rfl fo_23_1 (E rfl rfl))) ?_
    refine AWH.tk (i := 9) rfl rfl rfl (B rfl) (heldLoad rfl ag_3 (E rfl rfl) rfl) ?_
    refine AWH.tk (i := 11) rfl rfl rfl (B rfl) (heldAll (freeField rfl fo_23_5 (E rfl rfl))) ?_
    refine AWH.tk (i := 12) rfl rfl rfl (B rfl) (heldLoad rfl ag_2 (E rfl rfl) rfl) ?_
    refine AWH.two (i := 3) (j := 5) (by kernel_rfl) rfl rfl ?_ ?_
    ·
     refine AWL.call rfl rfl (B rfl) rfl ce_27 (E rfl rfl) (evsC (E rfl rfl) (evsC (E rfl rfl) (evsC (E rfl rfl) (evsC (E rfl rfl) evs0)))) (S1 := CB _ _ _ _) (S2 := [_]) rfl (rex34 _ _ _ _ _ _ _) ?_
     rintro t58 S58 ⟨rfl, A58, c58, rfl⟩
     refine tb 2 rfl ?_
     refine AWH.one (i := 5) (by kernel_rfl) rfl ?_
     refine AWL.buildSlice1 rfl rfl (B rfl) rfl el_43 rfl (evsC (E rfl rfl) evs0) (Nat.le_of_ble_eq_true rfl) rfl rfl ?_
     refine tb 2 rfl ?_
     refine AWH.one (i := 6) (by kernel_rfl) rfl ?_
     refine AWL.call rfl rfl (B rfl) rfl ce_28 (E rfl rfl) (evsC (E rfl rfl) (evsC (E rfl rfl) evs0)) (S1 := CB _ _ _ _) (S2 := [_]) rfl (put35 _ _ _ _ [_]) ?_
     rintro t61 S61 ⟨rfl, A61, c61, rfl⟩
     refine tb 2 rfl ?_
     refine AWH.one (i := 10) (by kernel_rfl) rfl ?_
     refine AWL.call rfl rfl (B rfl) rfl ce_29 (E rfl rfl) (evsC (E rfl rfl) (evsC (E rfl rfl) (evsC (E rfl rfl) evs0))) (S1 := CB _ _ _ _) (S2 := [_]) rfl (two36 _ _ _ _ _ _) ?_
     rintro t65 S65 ⟨rfl, A65, c65, rfl⟩
     refine tb 2 rfl ?_
     refine AWH.one (i := 13) (by kernel_rfl) rfl ?_
     refine AWL.call rfl rfl (B rfl) rfl ce_30 (E rfl rfl) (evsC (E rfl rfl) (evsC (E rfl rfl) (evsC (E rfl rfl) evs0))) (S1 := CB _ _ _ _) (S2 := [_]) rfl (imm37 _ _ _ _ _ 4) ?_
     rintro t68 S68 ⟨rfl, A68, c68, rfl⟩
     refine tb 2 rfl ?_
     refine AWH.done (by kernel_rfl) ?_
     refine AW.rseq ?_
     refine AWL.y rfl rfl (B rfl) (Yv.move rfl (E rfl rfl)) ?_
     refine AWL.y rfl rfl (B rfl) (Yv.nilChk rfl (E rfl rfl)) ?_
     refine AWL.y rfl rfl (B rfl) (Yv.fieldBox rfl fo_49_0 (E rfl rfl)) ?_
     refine AWL.y rfl rfl (B rfl) (Yv.loadBox rfl ag_24 (i := 1) rfl (E rfl rfl) rfl) ?_
     refine AWL.y rfl rfl (B rfl) (Yv.assign rfl (E rfl rfl)) ?_
     refine AWL.y rfl rfl (B rfl) (Yv.assign rfl (E rfl rfl)) ?_
     refine AWL.nil ?_
     refine AW.drop (List.take_sublist 1 _) ?_
     refine AW.ret (retI (.tmp rfl (.tmp rfl .nil)) ?_)
     rw [if_pos hval]
     refine enc_end ?_
     rw [enc1 (by rw [h28t]; rfl)]
     skip
     try simp only [List.append_assoc]
     rfl
    ·
     refine AWL.buildSlice1 rfl rfl (B rfl) rfl el_43 rfl (evsC (E rfl rfl) evs0) (Nat.le_of_ble_eq_true rfl) rfl rfl ?_
     refine tb 2 rfl ?_
     refine AWH.one (i := 3) (by kernel_rfl) rfl ?_
     refine AWL.call rfl rfl (B rfl) rfl ce_27 (E rfl rfl) (evsC (E rfl rfl) (evsC (E rfl rfl) (evsC (E rfl rfl) (evsC (E rfl rfl) evs0)))) (S1 := CB _ _ _ _) (S2 := [_]) rfl (rex34 _ _ _ _ _ _ _) ?_
     rintro t58 S58 ⟨rfl, A58, c58, rfl⟩
     refine tb 2 rfl ?_
     refine AWH.one (i := 6) (by kernel_rfl) rfl ?_
     refine AWL.call rfl rfl (B rfl) rfl ce_28 (E rfl rfl) (evsC (E rfl rfl) (evsC (E rfl rfl) evs0)) (S1 := CB _ _ _ _) (S2 := [_]) rfl (put35 _ _ _ _ [_]) ?_
     rintro t61 S61 ⟨rfl, A61, c61, rfl⟩
     refine tb 2 rfl ?_
     refine AWH.one (i := 10) (by kernel_rfl) rfl ?_
     refine AWL.call rfl rfl (B rfl) rfl ce_29 (E rfl rfl) (evsC (E rfl rfl) (evsC (E rfl rfl) (evsC (E rfl rfl) evs0))) (S1 := CB _ _ _ _) (S2 := [_]) rfl (two36 _ _ _ _ _ _) ?_
     rintro t65 S65 ⟨rfl, A65, c65, rfl⟩
     refine tb 2 rfl ?_
     refine AWH.one (i := 13) (by kernel_rfl) rfl ?_
     refine AWL.call rfl rfl (B rfl) rfl ce_30 (E rfl rfl) (evsC (E rfl rfl) (evsC (E rfl rfl) (evsC (E rfl rfl) evs0))) (S1 := CB _ _ _ _) (S2 := [_]) rfl (imm37 _ _ _ _ _ 4) ?_
     rintro t68 S68 ⟨rfl, A68, c68, rfl⟩
     refine tb 2 rfl ?_
     refine AWH.done (by kernel_rfl) ?_
     refine AW.rseq ?_
     refine AWL.y rfl rfl (B rfl) (Yv.move rfl (E rfl rfl)) ?_
     refine AWL.y rfl rfl (B rfl) (Yv.nilChk rfl (E rfl rfl)) ?_
     refine AWL.y rfl rfl (B rfl) (Yv.fieldBox rfl fo_49_0 (E rfl rfl)) ?_
     refine AWL.y rfl rfl (B rfl) (Yv.loadBox rfl ag_24 (i := 1) rfl (E rfl rfl) rfl) ?_
     refine AWL.y rfl rfl (B rfl) (Yv.assign rfl (E rfl rfl)) ?_
     refine AWL.y rfl rfl (B rfl) (Yv.assign rfl (E rfl rfl)) ?_
     refine AWL.nil ?_
     refine AW.drop (List.take_sublist 1 _) ?_
     refine AW.ret (retI (.tmp rfl (.tmp rfl .nil)) ?_)
     rw [if_pos hval]
     refine enc_end ?_
     rw [enc1 (by rw [h28t]; rfl)]
     skip
     try simp only [List.append_assoc]
     rfl
   · exfalso; replace h29f := of_decide_eq_false h29f; omega
  try replace h28f := of_decide_eq_false h28f
  refine AW.region ?_
  refine AWL.y rfl rfl (B rfl) (Yv.eql rfl (E rfl rfl) (E rfl rfl)) ?_
  refine AWL.y rfl rfl (B rfl) (Yv.assign rfl (E rfl rfl)) ?_
  refine AWL.nil ?_
  refine AW.cond rfl (fun h30t => ?_) (fun h30f => ?_)
  ·
   try replace h30t := of_decide_eq_true h30t
   refine AW.regionH (HeldBox b1 (insVals i)) rfl (tells_box (k := 2) rfl) ?_
   refine AWH.tk (i := 0) rfl rfl rfl (B rfl) (heldAll (freeMove rfl (E rfl rfl))) ?_
   refine AWH.tk (i := 1) rfl rfl rfl (B rfl) (heldAll (freeField rfl fo_23_1 (E rfl rfl))) ?_
   refine AWH.tk (i := 2) rfl rfl rfl (B rfl) (heldLoad rfl ag_3 (E rfl rfl) rfl) ?_
   refine AWH.tk (i := 4) rfl rfl rfl (B rfl) (heldAll (freeMove rfl (E rfl rfl))) ?_
   refine AWH.tk (i := 7) rfl rfl rfl (B rfl) (heldAll (freeMove rfl (E rfl rfl))) ?_
   refine AWH.tk (i := 8) rfl rfl rfl (B rfl) (heldAll (freeField rfl fo_23_1 (E rfl rfl))) ?_
   refine AWH.tk (i := 9) rfl rfl rfl (B rfl) (heldLoad rfl ag_3 (E rfl rfl) rfl) ?_
   refine AWH.tk (i := 11) rfl rfl rfl (B rfl) (heldAll (freeField rfl fo_23_5 (E rfl rfl))) ?_
   refine AWH.tk (i := 12) rfl rfl rfl (B rfl) (heldLoad rfl ag_2 (E rfl rfl) rfl) ?_
   refine AWH.two (i := 3) (j := 5) (by kernel_rfl) rfl rfl ?_ ?_
   ·
    refine AWL.call rfl rfl (B rfl) rfl ce_27 (E rfl rfl) (evsC (E rfl rfl) (evsC (E rfl rfl) (evsC (E rfl rfl) (evsC (E rfl rfl) evs0)))) (S1 := CB _ _ _ _) (S2 := [_]) rfl (rex34 _ _ _ _ _ _ _) ?_
    rintro t58 S58 ⟨rfl, A58, c58, rfl⟩
    refine tb 2 rfl ?_
    refine AWH.one (i := 5) (by kernel_rfl) rfl ?_
    refine AWL.buildSlice1 rfl rfl (B rfl) rfl el_43 rfl (evsC (E rfl rfl) evs0) (Nat.le_of_ble_eq_true rfl) rfl rfl ?_
    refine tb 2 rfl ?_
    refine AWH.one (i := 6) (by kernel_rfl) rfl ?_
    refine AWL.call rfl rfl (B rfl) rfl ce_28 (E rfl rfl) (evsC (E rfl rfl) (evsC (E rfl rfl) evs0)) (S1 := CB _ _ _ _) (S2 := [_]) rfl (put35 _ _ _ _ [_]) ?_
    rintro t61 S61 ⟨rfl, A61, c61, rfl⟩
    refine tb 2 rfl ?_
    refine AWH.one (i := 10) (by kernel_rfl) rfl ?_
    refine AWL.call rfl rfl (B rfl) rfl ce_29 (E rfl rfl) (evsC (E rfl rfl) (evsC (E rfl rfl) (evsC (E rfl rfl) evs0))) (S1 := CB _ _ _ _) (S2 := [_]) rfl (two36 _ _ _ _ _ _) ?_
    rintro t65 S65 ⟨rfl, A65, c65, rfl⟩
    refine tb 2 rfl ?_
    refine AWH.one (i := 13) (by kernel_rfl) rfl ?_
    refine AWL.call rfl rfl (B rfl) rfl ce_30 (E rfl rfl) (evsC (E rfl rfl) (evsC (E rfl rfl) (evsC (E rfl rfl) evs0))) (S1 := CB _ _ _ _) (S2 := [_]) rfl (imm37 _ _ _ _ _ 4) ?_
    rintro t68 S68 ⟨rfl, A68, c68, rfl⟩
    refine tb 2 rfl ?_
    refine AWH.done (by kernel_rfl) ?_
    refine AW.rseq ?_
    refine AWL.y rfl rfl (B rfl) (Yv.move rfl (E rfl rfl)) ?_
    refine AWL.y rfl rfl (B rfl) (Yv.nilChk rfl (E rfl rfl)) ?_
    refine AWL.y rfl rfl (B rfl) (Yv.fieldBox rfl fo_49_0 (E rfl rfl)) ?_
    refine AWL.y rfl rfl (B rfl) (Yv.loadBox rfl ag_24 (i := 1) rfl (E rfl rfl) rfl) ?_
    refine AWL.y rfl rfl (B rfl) (Yv.assign rfl (E rfl rfl)) ?_
    refine AWL.y rfl rfl (B rfl) (Yv.assign rfl (E rfl rfl)) ?_
    refine AWL.nil ?_
    refine AW.drop (List.take_sublist 1 _) ?_
    refine AW.ret (retI (.tmp rfl (.tmp rfl .nil)) ?_)
    rw [if_pos hval]
    refine enc_end ?_
    rw [enc1 (by rw [h30t]; rfl)]
    skip
    try simp only [List.append_assoc]
    rfl
   ·
    refine AWL.buildSlice1 rfl rfl (B rfl) rfl el_43 rfl (evsC (E rfl rfl) evs0) (Nat.le_of_ble_eq_true rfl) rfl rfl ?_
    refine tb 2 rfl ?_
    refine AWH.one (i := 3) (by kernel_rfl) rfl ?_
    refine AWL.call rfl rfl (B rfl) rfl ce_27 (E rfl rfl) (evsC (E rfl rfl) (evsC (E rfl rfl) (evsC (E rfl rfl) (evsC (E rfl rfl) evs0)))) (S1 := CB _ _ _ _) (S2 := [_]) rfl (rex34 _ _ _ _ _ _ _) ?_
    rintro t58 S58 ⟨rfl, A58, c58, rfl⟩
    refine tb 2 rfl ?_
    refine AWH.one (i := 6) (by kernel_rfl) rfl ?_
    refine AWL.call rfl rfl (B rfl) rfl ce_28 (E rfl rfl) (evsC (E rfl rfl) (evsC (E rfl rfl) evs0)) (S1 := CB _ _ _ _) (S2 := [_]) rfl (put35 _ _ _ _ [_]) ?_
    rintro t61 S61 ⟨rfl, A61, c61, rfl⟩
    refine tb 2 rfl ?_
    refine AWH.one (i := 10) (by kernel_rfl) rfl ?_
    refine AWL.call rfl rfl (B rfl) rfl ce_29 (E rfl rfl) (evsC (E rfl rfl) (evsC (E rfl rfl) (evsC (E rfl rfl) evs0))) (S1 := CB _ _ _ _) (S2 := [_]) rfl (two36 _ _ _ _ _ _) ?_
    rintro t65 S65 ⟨rfl, A65, c65, rfl⟩
    refine tb 2 rfl ?_
    refine AWH.one (i := 13) (by kernel_rfl) rfl ?_
    refine AWL.call rfl rfl (B rfl) rfl ce_30 (E rfl rfl) (evsC (E rfl rfl) (evsC (E rfl rfl) (evsC (E rfl rfl) evs0))) (S1 := CB _ _ _ _) (S2 := [_]) rfl (imm37 _ _ _ _ _ 4) ?_
    rintro t68 S68 ⟨rfl, A68, c68, rfl⟩
    refine tb 2 rfl ?_
    refine AWH.done (by kernel_rfl) ?_
    refine AW.rseq ?_
    refine AWL.y rfl rfl (B rfl) (Yv.move rfl (E rfl rfl)) ?_
    refine AWL.y rfl rfl (B rfl) (Yv.nilChk rfl (E rfl rfl)) ?_
    refine AWL.y rfl rfl (B rfl) (Yv.fieldBox rfl fo_49_0 (E rfl rfl)) ?_
    refine AWL.y rfl rfl (B rfl) (Yv.loadBox rfl ag_24 (i := 1) rfl (E rfl rfl) rfl) ?_
    refine AWL.y rfl rfl (B rfl) (Yv.assign rfl (E rfl rfl)) ?_
    refine AWL.y rfl rfl (B rfl) (Yv.assign rfl (E rfl rfl)) ?_
    refine AWL.nil ?_
    refine AW.drop (List.take_sublist 1 _) ?_
    refine AW.ret (retI (.tmp rfl (.tmp rfl .nil)) ?_)
    rw [if_pos hval]
    refine enc_end ?_
    rw [enc1 (by rw [h30t]; rfl)]
    skip
    try simp only [List.append_assoc]
    rfl
  try replace h30f := of_decide_eq_false h30f
  refine AW.seq ?_
  refine AW.rseq ?_
  refine AWL.y rfl rfl (B rfl) (Yv.eql rfl (E rfl rfl) (E rfl rfl)) ?_
  refine AWL.y rfl rfl (B rfl) (Yv.assign rfl (E rfl rfl)) ?_
  refine AWL.nil ?_
  refine AW.cond rfl (fun h31t => ?_) (fun h31f => ?_)
  ·
   try replace h31t := of_decide_eq_true h31t
   refine AW.skip ?_
   refine AW.cond rfl (fun h32t => ?_) (fun h32f => ?_)
   ·
    try replace h32t := of_decide_eq_true h32t
    refine AW.regionH (HeldBox b1 (insVals i)) rfl (tells_box (k := 2) rfl) ?_
    refine AWH.tk (i := 0) rfl rfl rfl (B rfl) (heldAll (freeMove rfl (E rfl rfl))) ?_
    refine AWH.tk (i := 1) rfl rfl rfl (B rfl) (heldAll (freeField rfl fo_23_1 (E rfl rfl))) ?_
    refine AWH.tk (i := 2) rfl rfl rfl (B rfl) (heldLoad rfl ag_3 (E rfl rfl) rfl) ?_
    refine AWH.tk (i := 4) rfl rfl rfl (B rfl) (heldAll (freeMove rfl (E rfl rfl))) ?_
    refine AWH.tk (i := 7) rfl rfl rfl (B rfl) (heldAll (freeMove rfl (E rfl rfl))) ?_
    refine AWH.tk (i := 8) rfl rfl rfl (B rfl) (heldAll (freeField rfl fo_23_1 (E rfl rfl))) ?_
    refine AWH.tk (i := 9) rfl rfl rfl (B rfl) (heldLoad rfl ag_3 (E rfl rfl) rfl) ?_
    refine AWH.two (i := 3) (j := 5) (by kernel_rfl) rfl rfl ?_ ?_
    ·
     refine AWL.call rfl rfl (B rfl) rfl ce_27 (E rfl rfl) (evsC (E rfl rfl) (evsC (E rfl rfl) (evsC (E rfl rfl) (evsC (E rfl rfl) evs0)))) (S1 := CB _ _ _ _) (S2 := [_]) rfl (rex34 _ _ _ _ _ _ _) ?_
     rintro t80 S80 ⟨rfl, A80, c80, rfl⟩
     refine tb 2 rfl ?_
     refine AWH.one (i := 5) (by kernel_rfl) rfl ?_
     refine AWL.buildSlice1 rfl rfl (B rfl) rfl el_43 rfl (evsC (E rfl rfl) evs0) (Nat.le_of_ble_eq_true rfl) rfl rfl ?_
     refine tb 2 rfl ?_
     refine AWH.one (i := 6) (by kernel_rfl) rfl ?_
     refine AWL.call rfl rfl (B rfl) rfl ce_28 (E rfl rfl) (evsC (E rfl rfl) (evsC (E rfl rfl) evs0)) (S1 := CB _ _ _ _) (S2 := [_]) rfl (put35 _ _ _ _ [_]) ?_
     rintro t83 S83 ⟨rfl, A83, c83, rfl⟩
     refine tb 2 rfl ?_
     refine AWH.one (i := 10) (by kernel_rfl) rfl ?_
     refine AWL.call rfl rfl (B rfl) rfl ce_29 (E rfl rfl) (evsC (E rfl rfl) (evsC (E rfl rfl) (evsC (E rfl rfl) evs0))) (S1 := CB _ _ _ _) (S2 := [_]) rfl (two36 _ _ _ _ _ _) ?_
     rintro t87 S87 ⟨rfl, A87, c87, rfl⟩
     refine tb 2 rfl ?_
     refine AWH.done (by kernel_rfl) ?_
     refine AW.rseq ?_
     refine AWL.y rfl rfl (B rfl) (Yv.move rfl (E rfl rfl)) ?_
     refine AWL.y rfl rfl (B rfl) (Yv.nilChk rfl (E rfl rfl)) ?_
     refine AWL.y rfl rfl (B rfl) (Yv.fieldBox rfl fo_49_0 (E rfl rfl)) ?_
     refine AWL.y rfl rfl (B rfl) (Yv.loadBox rfl ag_24 (i := 1) rfl (E rfl rfl) rfl) ?_
     refine AWL.y rfl rfl (B rfl) (Yv.assign rfl (E rfl rfl)) ?_
     refine AWL.y rfl rfl (B rfl) (Yv.assign rfl (E rfl rfl)) ?_
     refine AWL.nil ?_
     refine AW.drop (List.take_sublist 1 _) ?_
     refine AW.ret (retI (.tmp rfl (.tmp rfl .nil)) ?_)
     rw [if_pos hval]
     refine enc_end ?_
     rw [enc2 (by rw [h31t]; rfl)]
     skip
     try simp only [List.append_assoc]
     rfl
    ·
     refine AWL.buildSlice1 rfl rfl (B rfl) rfl el_43 rfl (evsC (E rfl rfl) evs0) (Nat.le_of_ble_eq_true rfl) rfl rfl ?_
     refine tb 2 rfl ?_
     refine AWH.one (i := 3) (by kernel_rfl) rfl ?_
     refine AWL.call rfl rfl (B rfl) rfl ce_27 (E rfl rfl) (evsC (E rfl rfl) (evsC (E rfl rfl) (evsC (E rfl rfl) (evsC (E rfl rfl) evs0)))) (S1 := CB _ _ _ _) (S2 := [_]) rfl (rex34 _ _ _ _ _ _ _) ?_
     rintro t80 S80 ⟨rfl, A80, c80, rfl⟩
     refine tb 2 rfl ?_
     refine AWH.one (i := 6) (by kernel_rfl) rfl ?_
     refine AWL.call rfl rfl (B rfl) rfl ce_28 (E rfl rfl) (evsC (E rfl rfl) (evsC (E rfl rfl) evs0)) (S1 := CB _ _ _ _) (S2 := [_]) rfl (put35 _ _ _ _ [_]) ?_
     rintro t83 S83 ⟨rfl, A83, c83, rfl⟩
     refine tb 2 rfl ?_
     refine AWH.one (i := 10) (by kernel_rfl) rfl ?_
     refine AWL.call rfl rfl (B rfl) rfl ce_29 (E rfl rfl) (evsC (E rfl rfl) (evsC (E rfl rfl) (evsC (E rfl rfl) evs0))) (S1 := CB _ _ _ _) (S2 := [_]) rfl (two36 _ _ _ _ _ _) ?_
     rintro t87 S87 ⟨rfl, A87, c87, rfl⟩
     refine tb 2 rfl ?_
     refine AWH.done (by kernel_rfl) ?_
     refine AW.rseq ?_
     refine AWL.y rfl rfl (B rfl) (Yv.move rfl (E rfl rfl)) ?_
     refine AWL.y rfl rfl (B rfl) (Yv.nilChk rfl (E rfl rfl)) ?_
     refine AWL.y rfl rfl (B rfl) (Yv.fieldBox rfl fo_49_0 (E rfl rfl)) ?_
     refine AWL.y rfl rfl (B rfl) (Yv.loadBox rfl ag_24 (i := 1) rfl (E rfl rfl) rfl) ?_
     refine AWL.y rfl rfl (B rfl) (Yv.assign rfl (E rfl rfl)) ?_
     refine AWL.y rfl rfl (B rfl) (Yv.assign rfl (E rfl rfl)) ?_
     refine AWL.nil ?_
     refine AW.drop (List.take_sublist 1 _) ?_
     refine AW.ret (retI (.tmp rfl (.tmp rfl .nil)) ?_)
     rw [if_pos hval]
     refine enc_end ?_
     rw [enc2 (by rw [h31t]; rfl)]
     skip
     try simp only [List.append_assoc]
     rfl
   · exfalso; replace h32f := of_decide_eq_false h32f; omega
  try replace h31f := of_decide_eq_false h31f
  refine AW.rseq ?_
  refine AWL.y rfl rfl (B rfl) (Yv.eql rfl (E rfl rfl) (E rfl rfl)) ?_
  refine AWL.y rfl rfl (B rfl) (Yv.assign rfl (E rfl rfl)) ?_
  refine AWL.nil ?_
  refine AW.cond rfl (fun h33t => ?_) (fun h33f => ?_)
  ·
   try replace h33t := of_decide_eq_true h33t
   refine AW.skip ?_
   refine AW.cond rfl (fun h34t => ?_) (fun h34f => ?_)
   ·
    try replace h34t := of_decide_eq_true h34t
    refine AW.regionH (HeldBox b1 (insVals i)) rfl (tells_box (k := 2) rfl) ?_
    refine AWH.tk (i := 0) rfl rfl rfl (B rfl) (heldAll (freeMove rfl (E rfl rfl))) ?_
    refine AWH.tk (i := 1) rfl rfl rfl (B rfl) (heldAll (freeField rfl fo_23_1 (E rfl rfl))) ?_
    refine AWH.tk (i := 2) rfl rfl rfl (B rfl) (heldLoad rfl ag_3 (E rfl rfl) rfl) ?_
    refine AWH.tk (i := 4) rfl rfl rfl (B rfl) (heldAll (freeMove rfl (E rfl rfl))) ?_
    refine AWH.tk (i := 7) rfl rfl rfl (B rfl) (heldAll (freeMove rfl (E rfl rfl))) ?_
    refine AWH.tk (i := 8) rfl rfl rfl (B rfl) (heldAll (freeField rfl fo_23_1 (E rfl rfl))) ?_
    refine AWH.tk (i := 9) rfl rfl rfl (B rfl) (heldLoad rfl ag_3 (E rfl rfl) rfl) ?_
    refine AWH.two (i := 3) (j := 5) (by kernel_rfl) rfl rfl ?_ ?_
    ·
     refine AWL.call rfl rfl (B rfl) rfl ce_27 (E rfl rfl) (evsC (E rfl rfl) (evsC (E rfl rfl) (evsC (E rfl rfl) (evsC (E rfl rfl) evs0)))) (S1 := CB _ _ _ _) (S2 := [_]) rfl (rex34 _ _ _ _ _ _ _) ?_
     rintro t80 S80 ⟨rfl, A80, c80, rfl⟩
     refine tb 2 rfl ?_
     refine AWH.one (i := 5) (by kernel_rfl) rfl ?_
     refine AWL.buildSlice1 rfl rfl (B rfl) rfl el_43 rfl (evsC (E rfl rfl) evs0) (Nat.le_of_ble_eq_true rfl) rfl rfl ?_
     refine tb 2 rfl ?_
     refine AWH.one (i := 6) (by kernel_rfl) rfl ?_
     refine AWL.call rfl rfl (B rfl) rfl ce_28 (E rfl rfl) (evsC (E rfl rfl) (evsC (E rfl rfl) evs0)) (S1 := CB _ _ _ _) (S2 := [_]) rfl (put35 _ _ _ _ [_]) ?_
     rintro t83 S83 ⟨rfl, A83, c83, rfl⟩
     refine tb 2 rfl ?_
     refine AWH.one (i := 10) (by kernel_rfl) rfl ?_
     refine AWL.call rfl rfl (B rfl) rfl ce_29 (E rfl rfl) (evsC (E rfl rfl) (evsC (E rfl rfl) (evsC (E rfl rfl) evs0))) (S1 := CB _ _ _ _) (S2 := [_]) rfl (two36 _ _ _ _ _ _) ?_
     rintro t87 S87 ⟨rfl, A87, c87, rfl⟩
     refine tb 2 rfl ?_
     refine AWH.done (by kernel_rfl) ?_
     refine AW.rseq ?_
     refine AWL.y rfl rfl (B rfl) (Yv.move rfl (E rfl rfl)) ?_
     refine AWL.y rfl rfl (B rfl) (Yv.nilChk rfl (E rfl rfl)) ?_
     refine AWL.y rfl rfl (B rfl) (Yv.fieldBox rfl fo_49_0 (E rfl rfl)) ?_
     refine AWL.y rfl rfl (B rfl) (Yv.loadBox rfl ag_24 (i := 1) rfl (E rfl rfl) rfl) ?_
     refine AWL.y rfl rfl (B rfl) (Yv.assign rfl (E rfl rfl)) ?_
     refine AWL.y rfl rfl (B rfl) (Yv.assign rfl (E rfl rfl)) ?_
     refine AWL.nil ?_
     refine AW.drop (List.take_sublist 1 _) ?_
     refine AW.ret (retI (.tmp rfl (.tmp rfl .nil)) ?_)
     rw [if_pos hval]
     refine enc_end ?_
     rw [enc2 (by rw [h33t]; rfl)]
     skip
     try simp only [List.append_assoc]
     rfl
    ·
     refine AWL.buildSlice1 rfl rfl (B rfl) rfl el_43 rfl (evsC (E rfl rfl) evs0) (Nat.le_of_ble_eq_true rfl) rfl rfl ?_
     refine tb 2 rfl ?_
     refine AWH.one (i := 3) (by kernel_rfl) rfl ?_
     refine AWL.call rfl rfl (B rfl) rfl ce_27 (E rfl rfl) (evsC (E rfl rfl) (evsC (E rfl rfl) (evsC (E rfl rfl) (evsC (E rfl rfl) evs0)))) (S1 := CB _ _ _ _) (S2 := [_]) rfl (rex34 _ _ _ _ _ _ _) ?_
     rintro t80 S80 ⟨rfl, A80, c80, rfl⟩
     refine tb 2 rfl ?_
     refine AWH.one (i := 6) (by kernel_rfl) rfl ?_
     refine AWL.call rfl rfl (B rfl) rfl ce_28 (E rfl rfl) (evsC (E rfl rfl) (evsC (E rfl rfl) evs0)) (S1 := CB _ _ _ _) (S2 := [_]) rfl (put35 _ _ _ _ [_]) ?_
     rintro t83 S83 ⟨rfl, A83, c83, rfl⟩
     refine tb 2 rfl ?_
     refine AWH.one (i := 10) (by kernel_rfl) rfl ?_
     refine AWL.call rfl rfl (B rfl) rfl ce_29 (E rfl rfl) (evsC (E rfl rfl) (evsC (E rfl rfl) (evsC (E rfl rfl) evs0))) (S1 := CB _ _ _ _) (S2 := [_]) rfl (two36 _ _ _ _ _ _) ?_
     rintro t87 S87 ⟨rfl, A87, c87, rfl⟩
     refine tb 2 rfl ?_
     refine AWH.done (by kernel_rfl) ?_
     refine AW.rseq ?_
     refine AWL.y rfl rfl (B rfl) (Yv.move rfl (E rfl rfl)) ?_
     refine AWL.y rfl rfl (B rfl) (Yv.nilChk rfl (E rfl rfl)) ?_
     refine AWL.y rfl rfl (B rfl) (Yv.fieldBox rfl fo_49_0 (E rfl rfl)) ?_
     refine AWL.y rfl rfl (B rfl) (Yv.loadBox rfl ag_24 (i := 1) rfl (E rfl rfl) rfl) ?_
     refine AWL.y rfl rfl (B rfl) (Yv.assign rfl (E rfl rfl)) ?_
     refine AWL.y rfl rfl (B rfl) (Yv.assign rfl (E rfl rfl)) ?_
     refine AWL.nil ?_
     refine AW.drop (List.take_sublist 1 _) ?_
     refine AW.ret (retI (.tmp rfl (.tmp rfl .nil)) ?_)
     rw [if_pos hval]
     refine enc_end ?_
     rw [enc2 (by rw [h33t]; rfl)]
     skip
     try simp only [List.append_assoc]
     rfl
   · exfalso; replace h34f := of_decide_eq_false h34f; omega
  try replace h33f := of_decide_eq_false h33f
  refine AW.rseq ?_
  refine AWL.y rfl rfl (B rfl) (Yv.eql rfl (E rfl rfl) (E rfl rfl)) ?_
  refine AWL.y rfl rfl (B rfl) (Yv.assign rfl (E rfl rfl)) ?_
  refine AWL.nil ?_
  refine AW.cond rfl (fun h35t => ?_) (fun h35f => ?_)
  ·
   try replace h35t := of_decide_eq_true h35t
   refine AW.skip ?_
   refine AW.cond rfl (fun h36t => ?_) (fun h36f => ?_)
   ·
    try replace h36t := of_decide_eq_true h36t
    refine AW.regionH (HeldBox b1 (insVals i)) rfl (tells_box (k := 2) rfl) ?_
    refine AWH.tk (i := 0) rfl rfl rfl (B rfl) (heldAll (freeMove rfl (E rfl rfl))) ?_
    refine AWH.tk (i := 1) rfl rfl rfl (B rfl) (heldAll (freeField rfl fo_23_1 (E rfl rfl))) ?_
    refine AWH.tk (i := 2) rfl rfl rfl (B rfl) (heldLoad rfl ag_3 (E rfl rfl) rfl) ?_
    refine AWH.tk (i := 4) rfl rfl rfl (B rfl) (heldAll (freeMove rfl (E rfl rfl))) ?_
    refine AWH.tk (i := 7) rfl rfl rfl (B rfl) (heldAll (freeMove rfl (E rfl rfl))) ?_
    refine AWH.tk (i := 8) rfl rfl rfl (B rfl) (heldAll (freeField rfl fo_23_1 (E rfl rfl))) ?_
    refine AWH.tk (i := 9) rfl rfl rfl (B rfl) (heldLoad rfl ag_3 (E rfl rfl) rfl) ?_
    refine AWH.two (i := 3) (j := 5) (by kernel_rfl) rfl rfl ?_ ?_
    ·
     refine AWL.call rfl rfl (B rfl) rfl ce_27 (E rfl rfl) (evsC (E rfl rfl) (evsC (E rfl rfl) (evsC (E rfl rfl) (evsC (E rfl rfl) evs0)))) (S1 := CB _ _ _ _) (S2 := [_]) rfl (rex34 _ _ _ _ _ _ _) ?_
     rintro t80 S80 ⟨rfl, A80, c80, rfl⟩
     refine tb 2 rfl ?_
     refine AWH.one (i := 5) (by kernel_rfl) rfl ?_
     refine AWL.buildSlice1 rfl rfl (B rfl) rfl el_43 rfl (evsC (E rfl rfl) evs0) (Nat.le_of_ble_eq_true rfl) rfl rfl ?_
     refine tb 2 rfl ?_
     refine AWH.one (i := 6) (by kernel_rfl) rfl ?_
     refine AWL.call rfl rfl (B rfl) rfl ce_28 (E rfl rfl) (evsC (E rfl rfl) (evsC (E rfl rfl) evs0)) (S1 := CB _ _ _ _) (S2 := [_]) rfl (put35 _ _ _ _ [_]) ?_
     rintro t83 S83 ⟨rfl, A83, c83, rfl⟩
     refine tb 2 rfl ?_
     refine AWH.one (i := 10) (by kernel_rfl) rfl ?_
     refine AWL.call rfl rfl (B rfl) rfl ce_29 (E rfl rfl) (evsC (E rfl rfl) (evsC (E rfl rfl) (evsC (E rfl rfl) evs0))) (S1 := CB _ _ _ _) (S2 := [_]) rfl (two36 _ _ _ _ _ _) ?_
     rintro t87 S87 ⟨rfl, A87, c87, rfl⟩
     refine tb 2 rfl ?_
     refine AWH.done (by kernel_rfl) ?_
     refine AW.rseq ?_
     refine AWL.y rfl rfl (B rfl) (Yv.move rfl (E rfl rfl)) ?_
     refine AWL.y rfl rfl (B rfl) (Yv.nilChk rfl (E rfl rfl)) ?_
     refine AWL.y rfl rfl (B rfl) (Yv.fieldBox rfl fo_49_0 (E rfl rfl)) ?_
     refine AWL.y rfl rfl (B rfl) (Yv.loadBox rfl ag_24 (i := 1) rfl (E rfl rfl) rfl) ?_
     refine AWL.y rfl rfl (B rfl) (Yv.assign rfl (E rfl rfl)) ?_
     refine AWL.y rfl rfl (B rfl) (Yv.assign rfl (E rfl rfl)) ?_
     refine AWL.nil ?_
     refine AW.drop (List.take_sublist 1 _) ?_
     refine AW.ret (retI (.tmp rfl (.tmp rfl .nil)) ?_)
     rw [if_pos hval]
     refine enc_end ?_
     rw [enc2 (by rw [h35t]; rfl)]
     skip
     try simp only [List.append_assoc]
     rfl
    ·
     refine AWL.buildSlice1 rfl rfl (B rfl) rfl el_43 rfl (evsC (E rfl rfl) evs0) (Nat.le_of_ble_eq_true rfl) rfl rfl ?_
     refine tb 2 rfl ?_
     refine AWH.one (i := 3) (by kernel_rfl) rfl ?_
     refine AWL.call rfl rfl (B rfl) rfl ce_27 (E rfl rfl) (evsC (E rfl rfl) (evsC (E rfl rfl) (evsC (E rfl rfl) (evsC (E rfl rfl) evs0)))) (S1 := CB _ _ _ _) (S2 := [_]) rfl (rex34 _ _ _ _ _ _ _) ?_
     rintro t80 S80 ⟨rfl, A80, c80, rfl⟩
     refine tb 2 rfl ?_
     refine AWH.one (i := 6) (by kernel_rfl) rfl ?_
     refine AWL.call rfl rfl (B rfl) rfl ce_28 (E rfl rfl) (evsC (E rfl rfl) (evsC (E rfl rfl) evs0)) (S1 := CB _ _ _ _) (S2 := [_]) rfl (put35 _ _ _ _ [_]) ?_
     rintro t83 S83 ⟨rfl, A83, c83, rfl⟩
     refine tb 2 rfl ?_
     refine AWH.one (i := 10) (by kernel_rfl) rfl ?_
     refine AWL.call rfl rfl (B rfl) rfl ce_29 (E rfl rfl) (evsC (E rfl rfl) (evsC (E rfl rfl) (evsC (E rfl rfl) evs0))) (S1 := CB _ _ _ _) (S2 := [_]) rfl (two36 _ _ _ _ _ _) ?_
     rintro t87 S87 ⟨rfl, A87, c87, rfl⟩
     refine tb 2 rfl ?_
     refine AWH.done (by kernel_rfl) ?_
     refine AW.rseq ?_
     refine AWL.y rfl rfl (B rfl) (Yv.move rfl (E rfl rfl)) ?_
     refine AWL.y rfl rfl (B rfl) (Yv.nilChk rfl (E rfl rfl)) ?_
     refine AWL.y rfl rfl (B rfl) (Yv.fieldBox rfl fo_49_0 (E rfl rfl)) ?_
     refine AWL.y rfl rfl (B rfl) (Yv.loadBox rfl ag_24 (i := 1) rfl (E rfl rfl) rfl) ?_
     refine AWL.y rfl rfl (B rfl) (Yv.assign rfl (E rfl rfl)) ?_
     refine AWL.y rfl rfl (B rfl) (Yv.assign rfl (E rfl rfl)) ?_
     refine AWL.nil ?_
     refine AW.drop (List.take_sublist 1 _) ?_
     refine AW.ret (retI (.tmp rfl (.tmp rfl .nil)) ?_)
     rw [if_pos hval]
     refine enc_end ?_
     rw [enc2 (by rw [h35t]; rfl)]
     skip
     try simp only [List.append_assoc]
     rfl
   · exfalso; replace h36f := of_decide_eq_false h36f; omega
  try replace h35f := of_decide_eq_false h35f
  refine AW.rseq ?_
  refine AWL.y rfl rfl (B rfl) (Yv.eql rfl (E rfl rfl) (E rfl rfl)) ?_
  refine AWL.y rfl rfl (B rfl) (Yv.assign rfl (E rfl rfl)) ?_
  refine AWL.nil ?_
  refine AW.cond rfl (fun h37t => ?_) (fun h37f => ?_)
  ·
   try replace h37t := of_decide_eq_true h37t
   refine AW.skip ?_
   refine AW.cond rfl (fun h38t => ?_) (fun h38f => ?_)
   ·
    try replace h38t := of_decide_eq_true h38t
    refine AW.regionH (HeldBox b1 (insVals i)) rfl (tells_box (k := 2) rfl) ?_
    refine AWH.tk (i := 0) rfl rfl rfl (B rfl) (heldAll (freeMove rfl (E rfl rfl))) ?_
    refine AWH.tk (i := 1) rfl rfl rfl (B rfl) (heldAll (freeField rfl fo_23_1 (E rfl rfl))) ?_
    refine AWH.tk (i := 2) rfl rfl rfl (B rfl) (heldLoad rfl ag_3 (E rfl rfl) rfl) ?_
    refine AWH.tk (i := 4) rfl rfl rfl (B rfl) (heldAll (freeMove rfl (E rfl rfl))) ?_
    refine AWH.tk (i := 7) rfl rfl rfl (B rfl) (heldAll (freeMove rfl (E rfl rfl))) ?_
    refine AWH.tk (i := 8) rfl rfl rfl (B rfl) (heldAll (freeField rfl fo_23_1 (E rfl rfl))) ?_
    refine AWH.tk (i := 9) rfl rfl rfl (B rfl) (heldLoad rfl ag_3 (E rfl rfl) rfl) ?_
    refine AWH.two (i := 3) (j := 5) (by kernel_rfl) rfl rfl ?_ ?_
    ·
     refine AWL.call rfl rfl (B rfl) rfl ce_27 (E rfl rfl) (evsC (E rfl rfl) (evsC (E rfl rfl) (evsC (E rfl rfl) (evsC (E rfl rfl) evs0)))) (S1 := CB _ _ _ _) (S2 := [_]) rfl (rex34 _ _ _ _ _ _ _) ?_
     rintro t80 S80 ⟨rfl, A80, c80, rfl⟩
     refine tb 2 rfl ?_
     refine AWH.one (i := 5) (by kernel_rfl) rfl ?_
     refine AWL.buildSlice1 rfl rfl (B rfl) rfl el_43 rfl (evsC (E rfl rfl) evs0) (Nat.le_of_ble_eq_true rfl) rfl rfl ?_
     refine tb 2 rfl ?_
     refine AWH.one (i := 6) (by kernel_rfl) rfl ?_
     refine AWL.call rfl rfl (B rfl) rfl ce_28 (E rfl rfl) (evsC (E rfl rfl) (evsC (E rfl rfl) evs0)) (S1 := CB _ _ _ _) (S2 := [_]) rfl (put35 _ _ _ _ [_]) ?_
     rintro t83 S83 ⟨rfl, A83, c83, rfl⟩
     refine tb 2 rfl ?_
     refine AWH.one (i := 10) (by kernel_rfl) rfl ?_
     refine AWL.call rfl rfl (B rfl) rfl ce_29 (E rfl rfl) (evsC (E rfl rfl) (evsC (E rfl rfl) (evsC (E rfl rfl) evs0))) (S1 := CB _ _ _ _) (S2 := [_]) rfl (two36 _ _ _ _ _ _) ?_
     rintro t87 S87 ⟨rfl, A87, c87, rfl⟩
     refine tb 2 rfl ?_
     refine AWH.done (by kernel_rfl) ?_
     refine AW.rseq ?_
     refine AWL.y rfl rfl (B rfl) (Yv.move rfl (E rfl rfl)) ?_
     refine AWL.y rfl rfl (B rfl) (Yv.nilChk rfl (E rfl rfl)) ?_
     refine AWL.y rfl rfl (B rfl) (Yv.fieldBox rfl fo_49_0 (E rfl rfl)) ?_
     refine AWL.y rfl rfl (B rfl) (Yv.loadBox rfl ag_24 (i := 1) rfl (E rfl rfl) rfl) ?_
     refine AWL.y rfl rfl (B rfl) (Yv.assign rfl (E rfl rfl)) ?_
     refine AWL.y rfl rfl (B rfl) (Yv.assign rfl (E rfl rfl)) ?_
     refine AWL.nil ?_
     refine AW.drop (List.take_sublist 1 _) ?_
     refine AW.ret (retI (.tmp rfl (.tmp rfl .nil)) ?_)
     rw [if_pos hval]
     refine enc_end ?_
     rw [enc2 (by rw [h37t]; rfl)]
     skip
     try simp only [List.append_assoc]
     rfl
    ·
     refine AWL.buildSlice1 rfl rfl (B rfl) rfl el_43 rfl (evsC (E rfl rfl) evs0) (Nat.le_of_ble_eq_true rfl) rfl rfl ?_
     refine tb 2 rfl ?_
     refine AWH.one (i := 3) (by kernel_rfl) rfl ?_
     refine AWL.call rfl rfl (B rfl) rfl ce_27 (E rfl rfl) (evsC (E rfl rfl) (evsC (E rfl rfl) (evsC (E rfl rfl) (evsC (E rfl rfl) evs0)))) (S1 := CB _ _ _ _) (S2 := [_]) rfl (rex34 _ _ _ _ _ _ _) ?_
     rintro t80 S80 ⟨rfl, A80, c80, rfl⟩
     refine tb 2 rfl ?_
     refine AWH.one (i := 6) (by kernel_rfl) rfl ?_
     refine AWL.call rfl rfl (B rfl) rfl ce_28 (E rfl rfl) (evsC (E rfl rfl) (evsC (E rfl rfl) evs0)) (S1 := CB _ _ _ _) (S2 := [_]) rfl (put35 _ _ _ _ [_]) ?_
     rintro t83 S83 ⟨rfl, A83, c83, rfl⟩
     refine tb 2 rfl ?_
     refine AWH.one (i := 10) (by kernel_rfl) rfl ?_
     refine AWL.call rfl rfl (B rfl) rfl ce_29 (E rfl rfl) (evsC (E rfl rfl) (evsC (E rfl rfl) (evsC (E rfl rfl) evs0))) (S1 := CB _ _ _ _) (S2 := [_]) rfl (two36 _ _ _ _ _ _) ?_
     rintro t87 S87 ⟨rfl, A87, c87, rfl⟩
     refine tb 2 rfl ?_
     refine AWH.done (by kernel_rfl) ?_
     refine AW.rseq ?_
     refine AWL.y rfl rfl (B rfl) (Yv.move rfl (E rfl rfl)) ?_
     refine AWL.y rfl rfl (B rfl) (Yv.nilChk rfl (E rfl rfl)) ?_
     refine AWL.y rfl rfl (B rfl) (Yv.fieldBox rfl fo_49_0 (E rfl rfl)) ?_
     refine AWL.y rfl rfl (B rfl) (Yv.loadBox rfl ag_24 (i := 1) rfl (E rfl rfl) rfl) ?_
     refine AWL.y rfl rfl (B rfl) (Yv.assign rfl (E rfl rfl)) ?_
     refine AWL.y rfl rfl (B rfl) (Yv.assign rfl (E rfl rfl)) ?_
     refine AWL.nil ?_
     refine AW.drop (List.take_sublist 1 _) ?_
     refine AW.ret (retI (.tmp rfl (.tmp rfl .nil)) ?_)
     rw [if_pos hval]
     refine enc_end ?_
     rw [enc2 (by rw [h37t]; rfl)]
     skip
     try simp only [List.append_assoc]
     rfl
   · exfalso; replace h38f := of_decide_eq_false h38f; omega
  try replace h37f := of_decide_eq_false h37f
  refine AW.rseq ?_
  refine AWL.y rfl rfl (B rfl) (Yv.eql rfl (E rfl rfl) (E rfl rfl)) ?_
  refine AWL.y rfl rfl (B rfl) (Yv.assign rfl (E rfl rfl)) ?_
  refine AWL.nil ?_
  refine AW.cond rfl (fun h39t => ?_) (fun h39f => ?_)
  ·
   try replace h39t := of_decide_eq_true h39t
   refine AW.skip ?_
   refine AW.cond rfl (fun h40t => ?_) (fun h40f => ?_)
   ·
    try replace h40t := of_decide_eq_true h40t
    refine AW.regionH (HeldBox b1 (insVals i)) rfl (tells_box (k := 2) rfl) ?_
    refine AWH.tk (i := 0) rfl rfl rfl (B rfl) (heldAll (freeMove rfl (E rfl rfl))) ?_
    refine AWH.tk (i := 1) rfl rfl rfl (B rfl) (heldAll (freeField rfl fo_23_1 (E rfl rfl))) ?_
    refine AWH.tk (i := 2) rfl rfl rfl (B rfl) (heldLoad rfl ag_3 (E rfl rfl) rfl) ?_
    refine AWH.tk (i := 4) rfl rfl rfl (B rfl) (heldAll (freeMove rfl (E rfl rfl))) ?_
    refine AWH.tk (i := 7) rfl rfl rfl (B rfl) (heldAll (freeMove rfl (E rfl rfl))) ?_
    refine AWH.tk (i := 8) rfl rfl rfl (B rfl) (heldAll (freeField rfl fo_23_1 (E rfl rfl))) ?_
    refine AWH.tk (i := 9) rfl rfl rfl (B rfl) (heldLoad rfl ag_3 (E rfl rfl) rfl) ?_
    refine AWH.two (i := 3) (j := 5) (by kernel_rfl) rfl rfl ?_ ?_
    ·
     refine AWL.call rfl rfl (B rfl) rfl ce_27 (E rfl rfl) (evsC (E rfl rfl) (evsC (E rfl rfl) (evsC (E rfl rfl) (evsC (E rfl rfl) evs0)))) (S1 := CB _ _ _ _) (S2 := [_]) rfl (rex34 _ _ _ _ _ _ _) ?_
     rintro t80 S80 ⟨rfl, A80, c80, rfl⟩
     refine tb 2 rfl ?_
     refine AWH.one (i := 5) (by kernel_rfl) rfl ?_
     refine AWL.buildSlice1 rfl rfl (B rfl) rfl el_43 rfl (evsC (E rfl rfl) evs0) (Nat.le_of_ble_eq_true rfl) rfl rfl ?_
     refine tb 2 rfl ?_
     refine AWH.one (i := 6) (by kernel_rfl) rfl ?_
     refine AWL.call rfl rfl (B rfl) rfl ce_28 (E rfl rfl) (evsC (E rfl rfl) (evsC (E rfl rfl) evs0)) (S1 := CB _ _ _ _) (S2 := [_]) rfl (put35 _ _ _ _ [_]) ?_
     rintro t83 S83 ⟨rfl, A83, c83, rfl⟩
     refine tb 2 rfl ?_
     refine AWH.one (i := 10) (by kernel_rfl) rfl ?_
     refine AWL.call rfl rfl (B rfl) rfl ce_29 (E rfl rfl) (evsC (E rfl rfl) (evsC (E rfl rfl) (evsC (E rfl rfl) evs0))) (S1 := CB _ _ _ _) (S2 := [_]) rfl (two36 _ _ _ _ _ _) ?_
     rintro t87 S87 ⟨rfl, A87, c87, rfl⟩
     refine tb 2 rfl ?_
     refine AWH.done (by kernel_rfl) ?_
     refine AW.rseq ?_
     refine AWL.y rfl rfl (B rfl) (Yv.move rfl (E rfl rfl)) ?_
     refine AWL.y rfl rfl (B rfl) (Yv.nilChk rfl (E rfl rfl)) ?_
     refine AWL.y rfl rfl (B rfl) (Yv.fieldBox rfl fo_49_0 (E rfl rfl)) ?_
     refine AWL.y rfl rfl (B rfl) (Yv.loadBox rfl ag_24 (i := 1) rfl (E rfl rfl) rfl) ?_
     refine AWL.y rfl rfl (B rfl) (Yv.assign rfl (E rfl rfl)) ?_
     refine AWL.y rfl rfl (B rfl) (Yv.assign rfl (E rfl rfl)) ?_
     refine AWL.nil ?_
     refine AW.drop (List.take_sublist 1 _) ?_
     refine AW.ret (retI (.tmp rfl (.tmp rfl .nil)) ?_)
     rw [if_pos hval]
     refine enc_end ?_
     rw [enc2 (by rw [h39t]; rfl)]
     skip
     try simp only [List.append_assoc]
     rfl
    ·
     refine AWL.buildSlice1 rfl rfl (B rfl) rfl el_43 rfl (evsC (E rfl rfl) evs0) (Nat.le_of_ble_eq_true rfl) rfl rfl ?_
     refine tb 2 rfl ?_
     refine AWH.one (i := 3) (by kernel_rfl) rfl ?_
     refine AWL.call rfl rfl (B rfl) rfl ce_27 (E rfl rfl) (evsC (E rfl rfl) (evsC (E rfl rfl) (evsC (E rfl rfl) (evsC (E rfl rfl) evs0)))) (S1 := CB _ _ _ _) (S2 := [_]) rfl (rex34 _ _ _ _ _ _ _) ?_
     rintro t80 S80 ⟨rfl, A80, c80, rfl⟩
     refine tb 2 rfl ?_
     refine AWH.one (i := 6) (by kernel_rfl) rfl ?_
     refine AWL.call rfl rfl (B rfl) rfl ce_28 (E rfl rfl) (evsC (E rfl rfl) (evsC (E rfl rfl) evs0)) (S1 := CB _ _ _ _) (S2 := [_]) rfl (put35 _ _ _ _ [_]) ?_
     rintro t83 S83 ⟨rfl, A83, c83, rfl⟩
     refine tb 2 rfl ?_
     refine AWH.one (i := 10) (by kernel_rfl) rfl ?_
     refine AWL.call rfl rfl (B rfl) rfl ce_29 (E rfl rfl) (evsC (E rfl rfl) (evsC (E rfl rfl) (evsC (E rfl rfl) evs0))) (S1 := CB _ _ _ _) (S2 := [_]) rfl (two36 _ _ _ _ _ _) ?_
     rintro t87 S87 ⟨rfl, A87, c87, rfl⟩
     refine tb 2 rfl ?_
     refine AWH.done (by kernel_rfl) ?_
     refine AW.rseq ?_
     refine AWL.y rfl rfl (B rfl) (Yv.move rfl (E rfl rfl)) ?_
     refine AWL.y rfl rfl (B rfl) (Yv.nilChk rfl (E rfl rfl)) ?_
     refine AWL.y rfl rfl (B rfl) (Yv.fieldBox rfl fo_49_0 (E rfl rfl)) ?_
     refine AWL.y rfl rfl (B rfl) (Yv.loadBox rfl ag_24 (i := 1) rfl (E rfl rfl) rfl) ?_
     refine AWL.y rfl rfl (B rfl) (Yv.assign rfl (E rfl rfl)) ?_
     refine AWL.y rfl rfl (B rfl) (Yv.assign rfl (E rfl rfl)) ?_
     refine AWL.nil ?_
     refine AW.drop (List.take_sublist 1 _) ?_
     refine AW.ret (retI (.tmp rfl (.tmp rfl .nil)) ?_)
     rw [if_pos hval]
     refine enc_end ?_
     rw [enc2 (by rw [h39t]; rfl)]
     skip
     try simp only [List.append_assoc]
     rfl
   · exfalso; replace h40f := of_decide_eq_false h40f; omega
  try replace h39f := of_decide_eq_false h39f
  refine AW.rseq ?_
  refine AWL.y rfl rfl (B rfl) (Yv.eql rfl (E rfl rfl) (E rfl rfl)) ?_
  refine AWL.y rfl rfl (B rfl) (Yv.assign rfl (E rfl rfl)) ?_
  refine AWL.nil ?_
  refine AW.cond rfl (fun h41t => ?_) (fun h41f => ?_)
  ·
   try replace h41t := of_decide_eq_true h41t
   refine AW.skip ?_
   refine AW.cond rfl (fun h42t => ?_) (fun h42f => ?_)
   ·
    try replace h42t := of_decide_eq_true h42t
    refine AW.regionH (HeldBox b1 (insVals i)) rfl (tells_box (k := 2) rfl) ?_
    refine AWH.tk (i := 0) rfl rfl rfl (B rfl) (heldAll (freeMove rfl (E rfl rfl))) ?_
    refine AWH.tk (i := 1) rfl rfl rfl (B rfl) (heldAll (freeField rfl fo_23_1 (E rfl rfl))) ?_
    refine AWH.tk (i := 2) rfl rfl rfl (B rfl) (heldLoad rfl ag_3 (E rfl rfl) rfl) ?_
    refine AWH.tk (i := 4) rfl rfl rfl (B rfl) (heldAll (freeMove rfl (E rfl rfl))) ?_
    refine AWH.tk (i := 7) rfl rfl rfl (B rfl) (heldAll (freeMove rfl (E rfl rfl))) ?_
    refine AWH.tk (i := 8) rfl rfl rfl (B rfl) (heldAll (freeField rfl fo_23_1 (E rfl rfl))) ?_
    refine AWH.tk (i := 9) rfl rfl rfl (B rfl) (heldLoad rfl ag_3 (E rfl rfl) rfl) ?_
    refine AWH.two (i := 3) (j := 5) (by kernel_rfl) rfl rfl ?_ ?_
    ·
     refine AWL.call rfl rfl (B rfl) rfl ce_27 (E rfl rfl) (evsC (E rfl rfl) (evsC (E rfl rfl) (evsC (E rfl rfl) (evsC (E rfl rfl) evs0)))) (S1 := CB _ _ _ _) (S2 := [_]) rfl (rex34 _ _ _ _ _ _ _) ?_
     rintro t80 S80 ⟨rfl, A80, c80, rfl⟩
     refine tb 2 rfl ?_
     refine AWH.one (i := 5) (by kernel_rfl) rfl ?_
     refine AWL.buildSlice1 rfl rfl (B rfl) rfl el_43 rfl (evsC (E rfl rfl) evs0) (Nat.le_of_ble_eq_true rfl) rfl rfl ?_
     refine tb 2 rfl ?_
     refine AWH.one (i := 6) (by kernel_rfl) rfl ?_
     refine AWL.call rfl rfl (B rfl) rfl ce_28 (E rfl rfl) (evsC (E rfl rfl) (evsC (E rfl rfl) evs0)) (S1 := CB _ _ _ _) (S2 := [_]) rfl (put35 _ _ _ _ [_]) ?_
     rintro t83 S83 ⟨rfl, A83, c83, rfl⟩
     refine tb 2 rfl ?_
     refine AWH.one (i := 10) (by kernel_rfl) rfl ?_
     refine AWL.call rfl rfl (B rfl) rfl ce_29 (E rfl rfl) (evsC (E rfl rfl) (evsC (E rfl rfl) (evsC (E rfl rfl) evs0))) (S1 := CB _ _ _ _) (S2 := [_]) rfl (two36 _ _ _ _ _ _) ?_
     rintro t87 S87 ⟨rfl, A87, c87, rfl⟩
     refine tb 2 rfl ?_
     refine AWH.done (by kernel_rfl) ?_
     refine AW.rseq ?_
     refine AWL.y rfl rfl (B rfl) (Yv.move rfl (E rfl rfl)) ?_
     refine AWL.y rfl rfl (B rfl) (Yv.nilChk rfl (E rfl rfl)) ?_
     refine AWL.y rfl rfl (B rfl) (Yv.fieldBox rfl fo_49_0 (E rfl rfl)) ?_
     refine AWL.y rfl rfl (B rfl) (Yv.loadBox rfl ag_24 (i := 1) rfl (E rfl rfl) rfl) ?_
     refine AWL.y rfl rfl (B rfl) (Yv.assign rfl (E rfl rfl)) ?_
     refine AWL.y rfl rfl (B rfl) (Yv.assign rfl (E rfl rfl)) ?_
     refine AWL.nil ?_
     refine AW.drop (List.take_sublist 1 _) ?_
     refine AW.ret (retI (.tmp rfl (.tmp rfl .nil)) ?_)
     rw [if_pos hval]
     refine enc_end ?_
     rw [enc2 (by rw [h41t]; rfl)]
     skip
     try simp only [List.append_assoc]
     rfl
    ·
     refine AWL.buildSlice1 rfl rfl (B rfl) rfl el_43 rfl (evsC (E rfl rfl) evs0) (Nat.le_of_ble_eq_true rfl) rfl rfl ?_
     refine tb 2 rfl ?_
     refine AWH.one (i := 3) (by kernel_rfl) rfl ?_
     refine AWL.call rfl rfl (B rfl) rfl ce_27 (E rfl rfl) (evsC (E rfl rfl) (evsC (E rfl rfl) (evsC (E rfl rfl) (evsC (E rfl rfl) evs0)))) (S1 := CB _ _ _ _) (S2 := [_]) rfl (rex34 _ _ _ _ _ _ _) ?_
     rintro t80 S80 ⟨rfl, A80, c80, rfl⟩
     refine tb 2 rfl ?_
     refine AWH.one (i := 6) (by kernel_rfl) rfl ?_
     refine AWL.call rfl rfl (B rfl) rfl ce_28 (E rfl rfl) (evsC (E rfl rfl) (evsC (E rfl rfl) evs0)) (S1 := CB _ _ _ _) (S2 := [_]) rfl (put35 _ _ _ _ [_]) ?_
     rintro t83 S83 ⟨rfl, A83, c83, rfl⟩
     refine tb 2 rfl ?_
     refine AWH.one (i := 10) (by kernel_rfl) rfl ?_
     refine AWL.call rfl rfl (B rfl) rfl ce_29 (E rfl rfl) (evsC (E rfl rfl) (evsC (E rfl rfl) (evsC (E rfl rfl) evs0))) (S1 := CB _ _ _ _) (S2 := [_]) rfl (two36 _ _ _ _ _ _) ?_
     rintro t87 S87 ⟨rfl, A87, c87, rfl⟩
     refine tb 2 rfl ?_
     refine AWH.done (by kernel_rfl) ?_
     refine AW.rseq ?_
     refine AWL.y rfl rfl (B rfl) (Yv.move rfl (E rfl rfl)) ?_
     refine AWL.y rfl rfl (B rfl) (Yv.nilChk rfl (E rfl rfl)) ?_
     refine AWL.y rfl rfl (B rfl) (Yv.fieldBox rfl fo_49_0 (E rfl rfl)) ?_
     refine AWL.y rfl rfl (B rfl) (Yv.loadBox rfl ag_24 (i := 1) rfl (E rfl rfl) rfl) ?_
     refine AWL.y rfl rfl (B rfl) (Yv.assign rfl (E rfl rfl)) ?_
     refine AWL.y rfl rfl (B rfl) (Yv.assign rfl (E rfl rfl)) ?_
     refine AWL.nil ?_
     refine AW.drop (List.take_sublist 1 _) ?_
     refine AW.ret (retI (.tmp rfl (.tmp rfl .nil)) ?_)
     rw [if_pos hval]
     refine enc_end ?_
     rw [enc2 (by rw [h41t]; rfl)]
     skip
     try simp only [List.append_assoc]
     rfl
   · exfalso; replace h42f := of_decide_eq_false h42f; omega
  try replace h41f := of_decide_eq_false h41f
  refine AW.region ?_
  refine AWL.y rfl rfl (B rfl) (Yv.eql rfl (E rfl rfl) (E rfl rfl)) ?_
  refine AWL.y rfl rfl (B rfl) (Yv.assign rfl (E rfl rfl)) ?_
  refine AWL.nil ?_
  refine AW.cond rfl (fun h43t => ?_) (fun h43f => ?_)
  ·
   try replace h43t := of_decide_eq_true h43t
   refine AW.regionH (HeldBox b1 (insVals i)) rfl (tells_box (k := 2) rfl) ?_
   refine AWH.tk (i := 0) rfl rfl rfl (B rfl) (heldAll (freeMove rfl (E rfl rfl))) ?_
   refine AWH.tk (i := 1) rfl rfl rfl (B rfl) (heldAll (freeField rfl fo_23_1 (E rfl rfl))) ?_
   refine AWH.tk (i := 2) rfl rfl rfl (B rfl) (heldLoad rfl ag_3 (E rfl rfl) rfl) ?_
   refine AWH.tk (i := 4) rfl rfl rfl (B rfl) (heldAll (freeMove rfl (E rfl rfl))) ?_
   refine AWH.tk (i := 7) rfl rfl rfl (B rfl) (heldAll (freeMove rfl (E rfl rfl))) ?_
   refine AWH.tk (i := 8) rfl rfl rfl (B rfl) (heldAll (freeField rfl fo_23_1 (E rfl rfl))) ?_
   refine AWH.tk (i := 9) rfl rfl rfl (B rfl) (heldLoad rfl ag_3 (E rfl rfl) rfl) ?_
   refine AWH.two (i := 3) (j := 5) (by kernel_rfl) rfl rfl ?_ ?_
   ·
    refine AWL.call rfl rfl (B rfl) rfl ce_27 (E rfl rfl) (evsC (E rfl rfl) (evsC (E rfl rfl) (evsC (E rfl rfl) (evsC (E rfl rfl) evs0)))) (S1 := CB _ _ _ _) (S2 := [_]) rfl (rex34 _ _ _ _ _ _ _) ?_
    rintro t80 S80 ⟨rfl, A80, c80, rfl⟩
    refine tb 2 rfl ?_
    refine AWH.one (i := 5) (by kernel_rfl) rfl ?_
    refine AWL.buildSlice1 rfl rfl (B rfl) rfl el_43 rfl (evsC (E rfl rfl) evs0) (Nat.le_of_ble_eq_true rfl) rfl rfl ?_
    refine tb 2 rfl ?_
    refine AWH.one (i := 6) (by kernel_rfl) rfl ?_
    refine AWL.call rfl rfl (B rfl) rfl ce_28 (E rfl rfl) (evsC (E rfl rfl) (evsC (E rfl rfl) evs0)) (S1 := CB _ _ _ _) (S2 := [_]) rfl (put35 _ _ _ _ [_]) ?_
    rintro t83 S83 ⟨rfl, A83, c83, rfl⟩
    refine tb 2 rfl ?_
    refine AWH.one (i := 10) (by kernel_rfl) rfl ?_
    refine AWL.call rfl rfl (B rfl) rfl ce_29 (E rfl rfl) (evsC (E rfl rfl) (evsC (E rfl rfl) (evsC (E rfl rfl) evs0))) (S1 := CB _ _ _ _) (S2 := [_]) rfl (two36 _ _ _ _ _ _) ?_
    rintro t87 S87 ⟨rfl, A87, c87, rfl⟩
    refine tb 2 rfl ?_
    refine AWH.done (by kernel_rfl) ?_
    refine AW.rseq ?_
    refine AWL.y rfl rfl (B rfl) (Yv.move rfl (E rfl rfl)) ?_
    refine AWL.y rfl rfl (B rfl) (Yv.nilChk rfl (E rfl rfl)) ?_
    refine AWL.y rfl rfl (B rfl) (Yv.fieldBox rfl fo_49_0 (E rfl rfl)) ?_
    refine AWL.y rfl rfl (B rfl) (Yv.loadBox rfl ag_24 (i := 1) rfl (E rfl rfl) rfl) ?_
    refine AWL.y rfl rfl (B rfl) (Yv.assign rfl (E rfl rfl)) ?_
    refine AWL.y rfl rfl (B rfl) (Yv.assign rfl (E rfl rfl)) ?_
    refine AWL.nil ?_
    refine AW.drop (List.take_sublist 1 _) ?_
    refine AW.ret (retI (.tmp rfl (.tmp rfl .nil)) ?_)
    rw [if_pos hval]
    refine enc_end ?_
    rw [enc2 (by rw [h43t]; rfl)]
    skip
    try simp only [List.append_assoc]
    rfl
   ·
    refine AWL.buildSlice1 rfl rfl (B rfl) rfl el_43 rfl (evsC (E rfl rfl) evs0) (Nat.le_of_ble_eq_true rfl) rfl rfl ?_
    refine tb 2 rfl ?_
    refine AWH.one (i := 3) (by kernel_rfl) rfl ?_
    refine AWL.call rfl rfl (B rfl) rfl ce_27 (E rfl rfl) (evsC (E rfl rfl) (evsC (E rfl rfl) (evsC (E rfl rfl) (evsC (E rfl rfl) evs0)))) (S1 := CB _ _ _ _) (S2 := [_]) rfl (rex34 _ _ _ _ _ _ _) ?_
    rintro t80 S80 ⟨rfl, A80, c80, rfl⟩
    refine tb 2 rfl ?_
    refine AWH.one (i := 6) (by kernel_rfl) rfl ?_
    refine AWL.call rfl rfl (B rfl) rfl ce_28 (E rfl rfl) (evsC (E rfl rfl) (evsC (E rfl rfl) evs0)) (S1 := CB _ _ _ _) (S2 := [_]) rfl (put35 _ _ _ _ [_]) ?_
    rintro t83 S83 ⟨rfl, A83, c83, rfl⟩
    refine tb 2 rfl ?_
    refine AWH.one (i := 10) (by kernel_rfl) rfl ?_
    refine AWL.call rfl rfl (B rfl) rfl ce_29 (E rfl rfl) (evsC (E rfl rfl) (evsC (E rfl rfl) (evsC (E rfl rfl) evs0))) (S1 := CB _ _ _ _) (S2 := [_]) rfl (two36 _ _ _ _ _ _) ?_
    rintro t87 S87 ⟨rfl, A87, c87, rfl⟩
    refine tb 2 rfl ?_
    refine AWH.done (by kernel_rfl) ?_
    refine AW.rseq ?_
    refine AWL.y rfl rfl (B rfl) (Yv.move rfl (E rfl rfl)) ?_
    refine AWL.y rfl rfl (B rfl) (Yv.nilChk rfl (E rfl rfl)) ?_
    refine AWL.y rfl rfl (B rfl) (Yv.fieldBox rfl fo_49_0 (E rfl rfl)) ?_
    refine AWL.y rfl rfl (B rfl) (Yv.loadBox rfl ag_24 (i := 1) rfl (E rfl rfl) rfl) ?_
    refine AWL.y rfl rfl (B rfl) (Yv.assign rfl (E rfl rfl)) ?_
    refine AWL.y rfl rfl (B rfl) (Yv.assign rfl (E rfl rfl)) ?_
    refine AWL.nil ?_
    refine AW.drop (List.take_sublist 1 _) ?_
    refine AW.ret (retI (.tmp rfl (.tmp rfl .nil)) ?_)
    rw [if_pos hval]
    refine enc_end ?_
    rw [enc2 (by rw [h43t]; rfl)]
    skip
    try simp only [List.append_assoc]
    rfl
  try replace h43f := of_decide_eq_false h43f
  refine AW.seq ?_
  refine AW.rseq ?_
  refine AWL.y rfl rfl (B rfl) (Yv.eql rfl (E rfl rfl) (E rfl rfl)) ?_
  refine AWL.y rfl rfl (B rfl) (Yv.assign rfl (E rfl rfl)) ?_
  refine AWL.nil ?_
  refine AW.cond rfl (fun h44t => ?_) (fun h44f => ?_)
  ·
   try replace h44t := of_decide_eq_true h44t
   refine AW.skip ?_
   refine AW.cond rfl (fun h45t => ?_) (fun h45f => ?_)
   ·
    try replace h45t := of_decide_eq_true h45t
    refine AW.regionH (HeldBox b1 (insVals i)) rfl (tells_box (k := 2) rfl) ?_
    refine AWH.tk (i := 0) rfl rfl rfl (B rfl) (heldAll (freeMove rfl (E rfl rfl))) ?_
    refine AWH.tk (i := 1) rfl rfl rfl (B rfl) (heldAll (freeField rfl fo_23_1 (E rfl rfl))) ?_
    refine AWH.tk (i := 2) rfl rfl rfl (B rfl) (heldLoad rfl ag_3 (E rfl rfl) rfl) ?_
    refine AWH.tk (i := 4) rfl rfl rfl (B rfl) (heldAll (freeMove rfl (E rfl rfl))) ?_
    refine AWH.tk (i := 7) rfl rfl rfl (B rfl) (heldAll (freeMove rfl (E rfl rfl))) ?_
    refine AWH.tk (i := 8) rfl rfl rfl (B rfl) (heldAll (freeField rfl fo_23_1 (E rfl rfl))) ?_
    refine AWH.tk (i := 9) rfl rfl rfl (B rfl) (heldLoad rfl ag_3 (E rfl rfl) rfl) ?_
    refine AWH.tk (i := 11) rfl rfl rfl (B rfl) (heldAll (freeField rfl fo_23_5 (E rfl rfl))) ?_
    refine AWH.tk (i := 12) rfl rfl rfl (B rfl) (heldLoad rfl ag_2 (E rfl rfl) rfl) ?_
    refine AWH.two (i := 3) (j := 5) (by kernel_rfl) rfl rfl ?_ ?_
    ·
     refine AWL.call rfl rfl (B rfl) rfl ce_27 (E rfl rfl) (evsC (E rfl rfl) (evsC (E rfl rfl) (evsC (E rfl rfl) (evsC (E rfl rfl) evs0)))) (S1 := CB _ _ _ _) (S2 := [_]) rfl (rex34 _ _ _ _ _ _ _) ?_
     rintro t95 S95 ⟨rfl, A95, c95, rfl⟩
     refine tb 2 rfl ?_
     refine AWH.one (i := 5) (by kernel_rfl) rfl ?_
     refine AWL.buildSlice1 rfl rfl (B rfl) rfl el_43 rfl (evsC (E rfl rfl) evs0) (Nat.le_of_ble_eq_true rfl) rfl rfl ?_
     refine tb 2 rfl ?_
     refine AWH.one (i := 6) (by kernel_rfl) rfl ?_
     refine AWL.call rfl rfl (B rfl) rfl ce_28 (E rfl rfl) (evsC (E rfl rfl) (evsC (E rfl rfl) evs0)) (S1 := CB _ _ _ _) (S2 := [_]) rfl (put35 _ _ _ _ [_]) ?_
     rintro t98 S98 ⟨rfl, A98, c98, rfl⟩
     refine tb 2 rfl ?_
     refine AWH.one (i := 10) (by kernel_rfl) rfl ?_
     refine AWL.call rfl rfl (B rfl) rfl ce_29 (E rfl rfl) (evsC (E rfl rfl) (evsC (E rfl rfl) (evsC (E rfl rfl) evs0))) (S1 := CB _ _ _ _) (S2 := [_]) rfl (two36 _ _ _ _ _ _) ?_
     rintro t102 S102 ⟨rfl, A102, c102, rfl⟩
     refine tb 2 rfl ?_
     refine AWH.one (i := 13) (by kernel_rfl) rfl ?_
     refine AWL.call rfl rfl (B rfl) rfl ce_30 (E rfl rfl) (evsC (E rfl rfl) (evsC (E rfl rfl) (evsC (E rfl rfl) evs0))) (S1 := CB _ _ _ _) (S2 := [_]) rfl (imm37 _ _ _ _ _ 1) ?_
     rintro t105 S105 ⟨rfl, A105, c105, rfl⟩
     refine tb 2 rfl ?_
     refine AWH.done (by kernel_rfl) ?_
     refine AW.rseq ?_
     refine AWL.y rfl rfl (B rfl) (Yv.move rfl (E rfl rfl)) ?_
     refine AWL.y rfl rfl (B rfl) (Yv.nilChk rfl (E rfl rfl)) ?_
     refine AWL.y rfl rfl (B rfl) (Yv.fieldBox rfl fo_49_0 (E rfl rfl)) ?_
     refine AWL.y rfl rfl (B rfl) (Yv.loadBox rfl ag_24 (i := 1) rfl (E rfl rfl) rfl) ?_
     refine AWL.y rfl rfl (B rfl) (Yv.assign rfl (E rfl rfl)) ?_
     refine AWL.y rfl rfl (B rfl) (Yv.assign rfl (E rfl rfl)) ?_
     refine AWL.nil ?_
     refine AW.drop (List.take_sublist 1 _) ?_
     refine AW.ret (retI (.tmp rfl (.tmp rfl .nil)) ?_)
     rw [if_pos hval]
     refine enc_end ?_
     rw [enc3 (by rw [h44t]; rfl)]
     skip
     try simp only [List.append_assoc]
     rfl
    ·
     refine AWL.buildSlice1 rfl rfl (B rfl) rfl el_43 rfl (evsC (E rfl rfl) evs0) (Nat.le_of_ble_eq_true rfl) rfl rfl ?_
     refine tb 2 rfl ?_
     refine AWH.one (i := 3) (by kernel_rfl) rfl ?_
     refine AWL.call rfl rfl (B rfl) rfl ce_27 (E rfl rfl) (evsC (E rfl rfl) (evsC (E rfl rfl) (evsC (E rfl rfl) (evsC (E rfl rfl) evs0)))) (S1 := CB _ _ _ _) (S2 := [_]) rfl (rex34 _ _ _ _ _ _ _) ?_
     rintro t95 S95 ⟨rfl, A95, c95, rfl⟩
     refine tb 2 rfl ?_
     refine AWH.one (i := 6) (by kernel_rfl) rfl ?_
     refine AWL.call rfl rfl (B rfl) rfl ce_28 (E rfl rfl) (evsC (E rfl rfl) (evsC (E rfl rfl) evs0)) (S1 := CB _ _ _ _) (S2 := [_]) rfl (put35 _ _ _ _ [_]) ?_
     rintro t98 S98 ⟨rfl, A98, c98, rfl⟩
     refine tb 2 rfl ?_
     refine AWH.one (i := 10) (by kernel_rfl) rfl ?_
     refine AWL.call rfl rfl (B rfl) rfl ce_29 (E rfl rfl) (evsC (E rfl rfl) (evsC (E rfl rfl) (evsC (E rfl rfl) evs0))) (S1 := CB _ _ _ _) (S2 := [_]) rfl (two36 _ _ _ _ _ _) ?_
     rintro t102 S102 ⟨rfl, A102, c102, rfl⟩
     refine tb 2 rfl ?_
     refine AWH.one (i := 13) (by kernel_rfl) rfl ?_
     refine AWL.call rfl rfl (B rfl) rfl ce_30 (E rfl rfl) (evsC (E rfl rfl) (evsC (E rfl rfl) (evsC (E rfl rfl) evs0))) (S1 := CB _ _ _ _) (S2 := [_]) rfl (imm37 _ _ _ _ _ 1) ?_
     rintro t105 S105 ⟨rfl, A105, c105, rfl⟩
     refine tb 2 rfl ?_
     refine AWH.done (by kernel_rfl) ?_
     refine AW.rseq ?_
     refine AWL.y rfl rfl (B rfl) (Yv.move rfl (E rfl rfl)) ?_
     refine AWL.y rfl rfl (B rfl) (Yv.nilChk rfl (E rfl rfl)) ?_
     refine AWL.y rfl rfl (B rfl) (Yv.fieldBox rfl fo_49_0 (E rfl rfl)) ?_
     refine AWL.y rfl rfl (B rfl) (Yv.loadBox rfl ag_24 (i := 1) rfl (E rfl rfl) rfl) ?_
     refine AWL.y rfl rfl (B rfl) (Yv.assign rfl (E rfl rfl)) ?_
     refine AWL.y rfl rfl (B rfl) (Yv.assign rfl (E rfl rfl)) ?_
     refine AWL.nil ?_
     refine AW.drop (List.take_sublist 1 _) ?_
     refine AW.ret (retI (.tmp rfl (.tmp rfl .nil)) ?_)
     rw [if_pos hval]
     refine enc_end ?_
     rw [enc3 (by rw [h44t]; rfl)]
     skip
     try simp only [List.append_assoc]
     rfl
   · exfalso; replace h45f := of_decide_eq_false h45f; omega
  try replace h44f := of_decide_eq_false h44f
  refine AW.rseq ?_
  refine AWL.y rfl rfl (B rfl) (Yv.eql rfl (E rfl rfl) (E rfl rfl)) ?_
  refine AWL.y rfl rfl (B rfl) (Yv.assign rfl (E rfl rfl)) ?_
  refine AWL.nil ?_
  refine AW.cond rfl (fun h46t => ?_) (fun h46f => ?_)
  ·
   try replace h46t := of_decide_eq_true h46t
   refine AW.skip ?_
   refine AW.cond rfl (fun h47t => ?_) (fun h47f => ?_)
   ·
    try replace h47t := of_decide_eq_true h47t
    refine AW.regionH (HeldBox b1 (insVals i)) rfl (tells_box (k := 2) rfl) ?_
    refine AWH.tk (i := 0) rfl rfl rfl (B rfl) (heldAll (freeMove rfl (E rfl rfl))) ?_
    refine AWH.tk (i := 1) rfl rfl rfl (B rfl) (heldAll (freeField rfl fo_23_1 (E rfl rfl))) ?_
    refine AWH.tk (i := 2) rfl rfl rfl (B rfl) (heldLoad rfl ag_3 (E rfl rfl) rfl) ?_
    refine AWH.tk (i := 4) rfl rfl rfl (B rfl) (heldAll (freeMove rfl (E rfl rfl))) ?_
    refine AWH.tk (i := 7) rfl rfl rfl (B rfl) (heldAll (freeMove rfl (E rfl rfl))) ?_
    refine AWH.tk (i := 8) rfl rfl rfl (B rfl) (heldAll (freeField rfl fo_23_1 (E rfl rfl))) ?_
    refine AWH.tk (i := 9) rfl rfl rfl (B rfl) (heldLoad rfl ag_3 (E rfl rfl) rfl) ?_
    refine AWH.tk (i := 11) rfl rfl rfl (B rfl) (heldAll (freeField rfl fo_23_5 (E rfl rfl))) ?_
    refine AWH.tk (i := 12) rfl rfl rfl (B rfl) (heldLoad rfl ag_2 (E rfl rfl) rfl) ?_
    refine AWH.two (i := 3) (j := 5) (by kernel_rfl) rfl rfl ?_ ?_
    ·
     refine AWL.call rfl rfl (B rfl) rfl ce_27 (E rfl rfl) (evsC (E rfl rfl) (evsC (E rfl rfl) (evsC (E rfl rfl) (evsC (E rfl rfl) evs0)))) (S1 := CB _ _ _ _) (S2 := [_]) rfl (rex34 _ _ _ _ _ _ _) ?_
     rintro t95 S95 ⟨rfl, A95, c95, rfl⟩
     refine tb 2 rfl ?_
     refine AWH.one (i := 5) (by kernel_rfl) rfl ?_
     refine AWL.buildSlice1 rfl rfl (B rfl) rfl el_43 rfl (evsC (E rfl rfl) evs0) (Nat.le_of_ble_eq_true rfl) rfl rfl ?_
     refine tb 2 rfl ?_
     refine AWH.one (i := 6) (by kernel_rfl) rfl ?_
     refine AWL.call rfl rfl (B rfl) rfl ce_28 (E rfl rfl) (evsC (E rfl rfl) (evsC (E rfl rfl) evs0)) (S1 := CB _ _ _ _) (S2 := [_]) rfl (put35 _ _ _ _ [_]) ?_
     rintro t98 S98 ⟨rfl, A98, c98, rfl⟩
     refine tb 2 rfl ?_
     refine AWH.one (i := 10) (by kernel_rfl) rfl ?_
     refine AWL.call rfl rfl (B rfl) rfl ce_29 (E rfl rfl) (evsC (E rfl rfl) (evsC (E rfl rfl) (evsC (E rfl rfl) evs0))) (S1 := CB _ _ _ _) (S2 := [_]) rfl (two36 _ _ _ _ _ _) ?_
     rintro t102 S102 ⟨rfl, A102, c102, rfl⟩
     refine tb 2 rfl ?_
     refine AWH.one (i := 13) (by kernel_rfl) rfl ?_
     refine AWL.call rfl rfl (B rfl) rfl ce_30 (E rfl rfl) (evsC (E rfl rfl) (evsC (E rfl rfl) (evsC (E rfl rfl) evs0))) (S1 := CB _ _ _ _) (S2 := [_]) rfl (imm37 _ _ _ _ _ 1) ?_
     rintro t105 S105 ⟨rfl, A105, c105, rfl⟩
     refine tb 2 rfl ?_
     refine AWH.done (by kernel_rfl) ?_
     refine AW.rseq ?_
     refine AWL.y rfl rfl (B rfl) (Yv.move rfl (E rfl rfl)) ?_
     refine AWL.y rfl rfl (B rfl) (Yv.nilChk rfl (E rfl rfl)) ?_
     refine AWL.y rfl rfl (B rfl) (Yv.fieldBox rfl fo_49_0 (E rfl rfl)) ?_
     refine AWL.y rfl rfl (B rfl) (Yv.loadBox rfl ag_24 (i := 1) rfl (E rfl rfl) rfl) ?_
     refine AWL.y rfl rfl (B rfl) (Yv.assign rfl (E rfl rfl)) ?_
     refine AWL.y rfl rfl (B rfl) (Yv.assign rfl (E rfl rfl)) ?_
     refine AWL.nil ?_
     refine AW.drop (List.take_sublist 1 _) ?_
     refine AW.ret (retI (.tmp rfl (.tmp rfl .nil)) ?_)
     rw [if_pos hval]
     refine enc_end ?_
     rw [enc3 (by rw [h46t]; rfl)]
     skip
     try simp only [List.append_assoc]
     rfl
    ·
     refine AWL.buildSlice1 rfl rfl (B rfl) rfl el_43 rfl (evsC (E rfl rfl) evs0) (Nat.le_of_ble_eq_true rfl) rfl rfl ?_
     refine tb 2 rfl ?_
     refine AWH.one (i := 3) (by kernel_rfl) rfl ?_
     refine AWL.call rfl rfl (B rfl) rfl ce_27 (E rfl rfl) (evsC (E rfl rfl) (evsC (E rfl rfl) (evsC (E rfl rfl) (evsC (E rfl rfl) evs0)))) (S1 := CB _ _ _ _) (S2 := [_]) rfl (rex34 _ _ _ _ _ _ _) ?_
     rintro t95 S95 ⟨rfl, A95, c95, rfl⟩
     refine tb 2 rfl ?_
     refine AWH.one (i := 6) (by kernel_rfl) rfl ?_
     refine AWL.call rfl rfl (B rfl) rfl ce_28 (E rfl rfl) (evsC (E rfl rfl) (evsC (E rfl rfl) evs0)) (S1 := CB _ _ _ _) (S2 := [_]) rfl (put35 _ _ _ _ [_]) ?_
     rintro t98 S98 ⟨rfl, A98, c98, rfl⟩
     refine tb 2 rfl ?_
     refine AWH.one (i := 10) (by kernel_rfl) rfl ?_
     refine AWL.call rfl rfl (B rfl) rfl ce_29 (E rfl rfl) (evsC (E rfl rfl) (evsC (E rfl rfl) (evsC (E rfl rfl) evs0))) (S1 := CB _ _ _ _) (S2 := [_]) rfl (two36 _ _ _ _ _ _) ?_
     rintro t102 S102 ⟨rfl, A102, c102, rfl⟩
     refine tb 2 rfl ?_
     refine AWH.one (i := 13) (by kernel_rfl) rfl ?_
     refine AWL.call rfl rfl (B rfl) rfl ce_30 (E rfl rfl) (evsC (E rfl rfl) (evsC (E rfl rfl) (evsC (E rfl rfl) evs0))) (S1 := CB _ _ _ _) (S2 := [_]) rfl (imm37 _ _ _ _ _ 1) ?_
     rintro t105 S105 ⟨rfl, A105, c105, rfl⟩
     refine tb 2 rfl ?_
     refine AWH.done (by kernel_rfl) ?_
     refine AW.rseq ?_
     refine AWL.y rfl rfl (B rfl) (Yv.move rfl (E rfl rfl)) ?_
     refine AWL.y rfl rfl (B rfl) (Yv.nilChk rfl (E rfl rfl)) ?_
     refine AWL.y rfl rfl (B rfl) (Yv.fieldBox rfl fo_49_0 (E rfl rfl)) ?_
     refine AWL.y rfl rfl (B rfl) (Yv.loadBox rfl ag_24 (i := 1) rfl (E rfl rfl) rfl) ?_
     refine AWL.y rfl rfl (B rfl) (Yv.assign rfl (E rfl rfl)) ?_
     refine AWL.y rfl rfl (B rfl) (Yv.assign rfl (E rfl rfl)) ?_
     refine AWL.nil ?_
     refine AW.drop (List.take_sublist 1 _) ?_
     refine AW.ret (retI (.tmp rfl (.tmp rfl .nil)) ?_)
     rw [if_pos hval]
     refine enc_end ?_
     rw [enc3 (by rw [h46t]; rfl)]
     skip
     try simp only [List.append_assoc]
     rfl
   · exfalso; replace h47f := of_decide_eq_false h47f; omega
  try replace h46f := of_decide_eq_false h46f
  refine AW.region ?_
  refine AWL.y rfl rfl (B rfl) (Yv.eql rfl (E rfl rfl) (E rfl rfl)) ?_
  refine AWL.y rfl rfl (B rfl) (Yv.assign rfl (E rfl rfl)) ?_
  refine AWL.nil ?_
  refine AW.cond rfl (fun h48t => ?_) (fun h48f => ?_)
  ·
   try replace h48t := of_decide_eq_true h48t
   refine AW.regionH (HeldBox b1 (insVals i)) rfl (tells_box (k := 2) rfl) ?_
   refine AWH.tk (i := 0) rfl rfl rfl (B rfl) (heldAll (freeMove rfl (E rfl rfl))) ?_
   refine AWH.tk (i := 1) rfl rfl rfl (B rfl) (heldAll (freeField rfl fo_23_1 (E rfl rfl))) ?_
   refine AWH.tk (i := 2) rfl rfl rfl (B rfl) (heldLoad rfl ag_3 (E rfl rfl) rfl) ?_
   refine AWH.tk (i := 4) rfl rfl rfl (B rfl) (heldAll (freeMove rfl (E rfl rfl))) ?_
   refine AWH.tk (i := 7) rfl rfl rfl (B rfl) (heldAll (freeMove rfl (E rfl rfl))) ?_
   refine AWH.tk (i := 8) rfl rfl rfl (B rfl) (heldAll (freeField rfl fo_23_1 (E rfl rfl))) ?_
   refine AWH.tk (i := 9) rfl rfl rfl (B rfl) (heldLoad rfl ag_3 (E rfl rfl) rfl) ?_
   refine AWH.tk (i := 11) rfl rfl rfl (B rfl) (heldAll (freeField rfl fo_23_5 (E rfl rfl))) ?_
   refine AWH.tk (i := 12) rfl rfl rfl (B rfl) (heldLoad rfl ag_2 (E rfl rfl) rfl) ?_
   refine AWH.two (i := 3) (j := 5) (by kernel_rfl) rfl rfl ?_ ?_
   ·
    refine AWL.call rfl rfl (B rfl) rfl ce_27 (E rfl rfl) (evsC (E rfl rfl) (evsC (E rfl rfl) (evsC (E rfl rfl) (evsC (E rfl rfl) evs0)))) (S1 := CB _ _ _ _) (S2 := [_]) rfl (rex34 _ _ _ _ _ _ _) ?_
    rintro t95 S95 ⟨rfl, A95, c95, rfl⟩
    refine tb 2 rfl ?_
    refine AWH.one (i := 5) (by kernel_rfl) rfl ?_
    refine AWL.buildSlice1 rfl rfl (B rfl) rfl el_43 rfl (evsC (E rfl rfl) evs0) (Nat.le_of_ble_eq_true rfl) rfl rfl ?_
    refine tb 2 rfl ?_
    refine AWH.one (i := 6) (by kernel_rfl) rfl ?_
    refine AWL.call rfl rfl (B rfl) rfl ce_28 (E rfl rfl) (evsC (E rfl rfl) (evsC (E rfl rfl) evs0)) (S1 := CB _ _ _ _) (S2 := [_]) rfl (put35 _ _ _ _ [_]) ?_
    rintro t98 S98 ⟨rfl, A98, c98, rfl⟩
    refine tb 2 rfl ?_
    refine AWH.one (i := 10) (by kernel_rfl) rfl ?_
    refine AWL.call rfl rfl (B rfl) rfl ce_29 (E rfl rfl) (evsC (E rfl rfl) (evsC (E rfl rfl) (evsC (E rfl rfl) evs0))) (S1 := CB _ _ _ _) (S2 := [_]) rfl (two36 _ _ _ _ _ _) ?_
    rintro t102 S102 ⟨rfl, A102, c102, rfl⟩
    refine tb 2 rfl ?_
    refine AWH.one (i := 13) (by kernel_rfl) rfl ?_
    refine AWL.call rfl rfl (B rfl) rfl ce_30 (E rfl rfl) (evsC (E rfl rfl) (evsC (E rfl rfl) (evsC (E rfl rfl) evs0))) (S1 := CB _ _ _ _) (S2 := [_]) rfl (imm37 _ _ _ _ _ 1) ?_
    rintro t105 S105 ⟨rfl, A105, c105, rfl⟩
    refine tb 2 rfl ?_
    refine AWH.done (by kernel_rfl) ?_
    refine AW.rseq ?_
    refine AWL.y rfl rfl (B rfl) (Yv.move rfl (E rfl rfl)) ?_
    refine AWL.y rfl rfl (B rfl) (Yv.nilChk rfl (E rfl rfl)) ?_
    refine AWL.y rfl rfl (B rfl) (Yv.fieldBox rfl fo_49_0 (E rfl rfl)) ?_
    refine AWL.y rfl rfl (B rfl) (Yv.loadBox rfl ag_24 (i := 1) rfl (E rfl rfl) rfl) ?_
    refine AWL.y rfl rfl (B rfl) (Yv.assign rfl (E rfl rfl)) ?_
    refine AWL.y rfl rfl (B rfl) (Yv.assign rfl (E rfl rfl)) ?_
    refine AWL.nil ?_
    refine AW.drop (List.take_sublist 1 _) ?_
    refine AW.ret (retI (.tmp rfl (.tmp rfl .nil)) ?_)
    rw [if_pos hval]
    refine enc_end ?_
    rw [enc3 (by rw [h48t]; rfl)]
    skip
    try simp only [List.append_assoc]
    rfl
   ·
    refine AWL.buildSlice1 rfl rfl (B rfl) rfl el_43 rfl (evsC (E rfl rfl) evs0) (Nat.le_of_ble_eq_true rfl) rfl rfl ?_
    refine tb 2 rfl ?_
    refine AWH.one (i := 3) (by kernel_rfl) rfl ?_
    refine AWL.call rfl rfl (B rfl) rfl ce_27 (E rfl rfl) (evsC (E rfl rfl) (evsC (E rfl rfl) (evsC (E rfl rfl) (evsC (E rfl rfl) evs0)))) (S1 := CB _ _ _ _) (S2 := [_]) rfl (rex34 _ _ _ _ _ _ _) ?_
    rintro t95 S95 ⟨rfl, A95, c95, rfl⟩
    refine tb 2 rfl ?_
    refine AWH.one (i := 6) (by kernel_rfl) rfl ?_
    refine AWL.call rfl rfl (B rfl) rfl ce_28 (E rfl rfl) (evsC (E rfl rfl) (evsC (E rfl rfl) evs0)) (S1 := CB _ _ _ _) (S2 := [_]) rfl (put35 _ _ _ _ [_]) ?_
    rintro t98 S98 ⟨rfl, A98, c98, rfl⟩
    refine tb 2 rfl ?_
    refine AWH.one (i := 10) (by kernel_rfl) rfl ?_
    refine AWL.call rfl rfl (B rfl) rfl ce_29 (E rfl rfl) (evsC (E rfl rfl) (evsC (E rfl rfl) (evsC (E rfl rfl) evs0))) (S1 := CB _ _ _ _) (S2 := [_]) rfl (two36 _ _ _ _ _ _) ?_
    rintro t102 S102 ⟨rfl, A102, c102, rfl⟩
    refine tb 2 rfl ?_
    refine AWH.one (i := 13) (by kernel_rfl) rfl ?_
    refine AWL.call rfl rfl (B rfl) rfl ce_30 (E rfl rfl) (evsC (E rfl rfl) (evsC (E rfl rfl) (evsC (E rfl rfl) evs0))) (S1 := CB _ _ _ _) (S2 := [_]) rfl (imm37 _ _ _ _ _ 1) ?_
    rintro t105 S105 ⟨rfl, A105, c105, rfl⟩
    refine tb 2 rfl ?_
    refine AWH.done (by kernel_rfl) ?_
    refine AW.rseq ?_
    refine AWL.y rfl rfl (B rfl) (Yv.move rfl (E rfl rfl)) ?_
    refine AWL.y rfl rfl (B rfl) (Yv.nilChk rfl (E rfl rfl)) ?_
    refine AWL.y rfl rfl (B rfl) (Yv.fieldBox rfl fo_49_0 (E rfl rfl)) ?_
    refine AWL.y rfl rfl (B rfl) (Yv.loadBox rfl ag_24 (i := 1) rfl (E rfl rfl) rfl) ?_
    refine AWL.y rfl rfl (B rfl) (Yv.assign rfl (E rfl rfl)) ?_
    refine AWL.y rfl rfl (B rfl) (Yv.assign rfl (E rfl rfl)) ?_
    refine AWL.nil ?_
    refine AW.drop (List.take_sublist 1 _) ?_
    refine AW.ret (retI (.tmp rfl (.tmp rfl .nil)) ?_)
    rw [if_pos hval]
    refine enc_end ?_
    rw [enc3 (by rw [h48t]; rfl)]
    skip
    try simp only [List.append_assoc]
    rfl
  try replace h48f := of_decide_eq_false h48f
  refine AW.seq ?_
  refine AW.rseq ?_
  refine AWL.y rfl rfl (B rfl) (Yv.eql rfl (E rfl rfl) (E rfl rfl)) ?_
  refine AWL.y rfl rfl (B rfl) (Yv.assign rfl (E rfl rfl)) ?_
  refine AWL.nil ?_
  refine AW.cond rfl (fun h49t => ?_) (fun h49f => ?_)
  ·
   try replace h49t := of_decide_eq_true h49t
   refine AW.skip ?_
   refine AW.cond rfl (fun h50t => ?_) (fun h50f => ?_)
   ·
    try replace h50t := of_decide_eq_true h50t
    refine AW.regionH (HeldBox b1 (insVals i)) rfl (tells_box (k := 2) rfl) ?_
    refine AWH.tk (i := 0) rfl rfl rfl (B rfl) (heldAll (freeMove rfl (E rfl rfl))) ?_
    refine AWH.tk (i := 1) rfl rfl rfl (B rfl) (heldAll (freeField rfl fo_23_1 (E rfl rfl))) ?_
    refine AWH.tk (i := 2) rfl rfl rfl (B rfl) (heldLoad rfl ag_3 (E rfl rfl) rfl) ?_
    refine AWH.tk (i := 4) rfl rfl rfl (B rfl) (heldAll (freeMove rfl (E rfl rfl))) ?_
    refine AWH.tk (i := 7) rfl rfl rfl (B rfl) (heldAll (freeMove rfl (E rfl rfl))) ?_
    refine AWH.tk (i := 8) rfl rfl rfl (B rfl) (heldAll (freeField rfl fo_23_1 (E rfl rfl))) ?_
    refine AWH.tk (i := 9) rfl rfl rfl (B rfl) (heldLoad rfl ag_3 (E rfl rfl) rfl) ?_
    refine AWH.two (i := 3) (j := 5) (by kernel_rfl) rfl rfl ?_ ?_
    ·
     refine AWL.call rfl rfl (B rfl) rfl ce_27 (E rfl rfl) (evsC (E rfl rfl) (evsC (E rfl rfl) (evsC (E rfl rfl) (evsC (E rfl rfl) evs0)))) (S1 := CB _ _ _ _) (S2 := [_]) rfl (rex34 _ _ _ _ _ _ _) ?_
     rintro t112 S112 ⟨rfl, A112, c112, rfl⟩
     refine tb 2 rfl ?_
     refine AWH.one (i := 5) (by kernel_rfl) rfl ?_
     refine AWL.buildSlice1 rfl rfl (B rfl) rfl el_43 rfl (evsC (E rfl rfl) evs0) (Nat.le_of_ble_eq_true rfl) rfl rfl ?_
     refine tb 2 rfl ?_
     refine AWH.one (i := 6) (by kernel_rfl) rfl ?_
     refine AWL.call rfl rfl (B rfl) rfl ce_28 (E rfl rfl) (evsC (E rfl rfl) (evsC (E rfl rfl) evs0)) (S1 := CB _ _ _ _) (S2 := [_]) rfl (put35 _ _ _ _ [_]) ?_
     rintro t115 S115 ⟨rfl, A115, c115, rfl⟩
     refine tb 2 rfl ?_
     refine AWH.one (i := 10) (by kernel_rfl) rfl ?_
     refine AWL.call rfl rfl (B rfl) rfl ce_29 (E rfl rfl) (evsC (E rfl rfl) (evsC (E rfl rfl) (evsC (E rfl rfl) evs0))) (S1 := CB _ _ _ _) (S2 := [_]) rfl (two36 _ _ _ _ _ _) ?_
     rintro t119 S119 ⟨rfl, A119, c119, rfl⟩
     refine tb 2 rfl ?_
     refine AWH.done (by kernel_rfl) ?_
     refine AW.rseq ?_
     refine AWL.y rfl rfl (B rfl) (Yv.move rfl (E rfl rfl)) ?_
     refine AWL.y rfl rfl (B rfl) (Yv.nilChk rfl (E rfl rfl)) ?_
     refine AWL.y rfl rfl (B rfl) (Yv.fieldBox rfl fo_49_0 (E rfl rfl)) ?_
     refine AWL.y rfl rfl (B rfl) (Yv.loadBox rfl ag_24 (i := 1) rfl (E rfl rfl) rfl) ?_
     refine AWL.y rfl rfl (B rfl) (Yv.assign rfl (E rfl rfl)) ?_
     refine AWL.y rfl rfl (B rfl) (Yv.assign rfl (E rfl rfl)) ?_
     refine AWL.nil ?_
     refine AW.drop (List.take_sublist 1 _) ?_
     refine AW.ret (retI (.tmp rfl (.tmp rfl .nil)) ?_)
     rw [if_pos hval]
     refine enc_end ?_
     rw [enc4 (by rw [h49t]; rfl)]
     skip
     try simp only [List.append_assoc]
     rfl
    ·
     refine AWL.buildSlice1 rfl rfl (B rfl) rfl el_43 rfl (evsC (E rfl rfl) evs0) (Nat.le_of_ble_eq_true rfl) rfl rfl ?_
     refine tb 2 rfl ?_
     refine AWH.one (i := 3) (by kernel_rfl) rfl ?_
     refine AWL.call rfl rfl (B rfl) rfl ce_27 (E rfl rfl) (evsC (E rfl rfl) (evsC (E rfl rfl) (evsC (E rfl rfl) (evsC (E rfl rfl) evs0)))) (S1 := CB _ _ _ _) (S2 := [_]) rfl (rex34 _ _ _ _ _ _ _) ?_
     rintro t112 S112 ⟨rfl, A112, c112, rfl⟩
     refine tb 2 rfl ?_
     refine AWH.one (i := 6) (by kernel_rfl) rfl ?_
     refine AWL.call rfl rfl (B rfl) rfl ce_28 (E rfl rfl) (evsC (E rfl rfl) (evsC (E rfl rfl) evs0)) (S1 := CB _ _ _ _) (S2 := [_]) rfl (put35 _ _ _ _ [_]) ?_
     rintro t115 S115 ⟨rfl, A115, c115, rfl⟩
     refine tb 2 rfl ?_
     refine AWH.one (i := 10) (by kernel_rfl) rfl ?_
     refine AWL.call rfl rfl (B rfl) rfl ce_29 (E rfl rfl) (evsC (E rfl rfl) (evsC (E rfl rfl) (evsC (E rfl rfl) evs0))) (S1 := CB _ _ _ _) (S2 := [_]) rfl (two36 _ _ _ _ _ _) ?_
     rintro t119 S119 ⟨rfl, A119, c119, rfl⟩
     refine tb 2 rfl ?_
     refine AWH.done (by kernel_rfl) ?_
     refine AW.rseq ?_
     refine AWL.y rfl rfl (B rfl) (Yv.move rfl (E rfl rfl)) ?_
     refine AWL.y rfl rfl (B rfl) (Yv.nilChk rfl (E rfl rfl)) ?_
     refine AWL.y rfl rfl (B rfl) (Yv.fieldBox rfl fo_49_0 (E rfl rfl)) ?_
     refine AWL.y rfl rfl (B rfl) (Yv.loadBox rfl ag_24 (i := 1) rfl (E rfl rfl) rfl) ?_
     refine AWL.y rfl rfl (B rfl) (Yv.assign rfl (E rfl rfl)) ?_
     refine AWL.y rfl rfl (B rfl) (Yv.assign rfl (E rfl rfl)) ?_
     refine AWL.nil ?_
     refine AW.drop (List.take_sublist 1 _) ?_
     refine AW.ret (retI (.tmp rfl (.tmp rfl .nil)) ?_)
     rw [if_pos hval]
     refine enc_end ?_
     rw [enc4 (by rw [h49t]; rfl)]
     skip
     try simp only [List.append_assoc]
     rfl
   · exfalso; replace h50f := of_decide_eq_false h50f; omega
  try replace h49f := of_decide_eq_false h49f
  refine AW.region ?_
  refine AWL.y rfl rfl (B rfl) (Yv.eql rfl (E rfl rfl) (E rfl rfl)) ?_
  refine AWL.y rfl rfl (B rfl) (Yv.assign rfl (E rfl rfl)) ?_
  refine AWL.nil ?_
  refine AW.cond rfl (fun h51t => ?_) (fun h51f => ?_)
  ·
   try replace h51t := of_decide_eq_true h51t
   refine AW.regionH (HeldBox b1 (insVals i)) rfl (tells_box (k := 2) rfl) ?_
   refine AWH.tk (i := 0) rfl rfl rfl (B rfl) (heldAll (freeMove rfl (E rfl rfl))) ?_
   refine AWH.tk (i := 1) rfl rfl rfl (B rfl) (heldAll (freeField rfl fo_23_1 (E rfl rfl))) ?_
   refine AWH.tk (i := 2) rfl rfl rfl (B rfl) (heldLoad rfl ag_3 (E rfl rfl) rfl) ?_
   refine AWH.tk (i := 4) rfl rfl rfl (B rfl) (heldAll (freeMove rfl (E rfl rfl))) ?_
   refine AWH.tk (i := 7) rfl rfl rfl (B rfl) (heldAll (freeMove rfl (E rfl rfl))) ?_
   refine AWH.tk (i := 8) rfl rfl rfl (B rfl) (heldAll (freeField rfl fo_23_1 (E rfl rfl))) ?_
   refine AWH.tk (i := 9) rfl rfl rfl (B rfl) (heldLoad rfl ag_3 (E rfl rfl) rfl) ?_
   refine AWH.two (i := 3) (j := 5) (by kernel_rfl) rfl rfl ?_ ?_
   ·
    refine AWL.call rfl rfl (B rfl) rfl ce_27 (E rfl rfl) (evsC (E rfl rfl) (evsC (E rfl rfl) (evsC (E rfl rfl) (evsC (E rfl rfl) evs0)))) (S1 := CB _ _ _ _) (S2 := [_]) rfl (rex34 _ _ _ _ _ _ _) ?_
    rintro t112 S112 ⟨rfl, A112, c112, rfl⟩
    refine tb 2 rfl ?_
    refine AWH.one (i := 5) (by kernel_rfl) rfl ?_
    refine AWL.buildSlice1 rfl rfl (B rfl) rfl el_43 rfl (evsC (E rfl rfl) evs0) (Nat.le_of_ble_eq_true rfl) rfl rfl ?_
    refine tb 2 rfl ?_
    refine AWH.one (i := 6) (by kernel_rfl) rfl ?_
    refine AWL.call rfl rfl (B rfl) rfl ce_28 (E rfl rfl) (evsC (E rfl rfl) (evsC (E rfl rfl) evs0)) (S1 := CB _ _ _ _) (S2 := [_]) rfl (put35 _ _ _ _ [_]) ?_
    rintro t115 S115 ⟨rfl, A115, c115, rfl⟩
    refine tb 2 rfl ?_
    refine AWH.one (i := 10) (by kernel_rfl) rfl ?_
    refine AWL.call rfl rfl (B rfl) rfl ce_29 (E rfl rfl) (evsC (E rfl rfl) (evsC (E rfl rfl) (evsC (E rfl rfl) evs0))) (S1 := CB _ _ _ _) (S2 := [_]) rfl (two36 _ _ _ _ _ _) ?_
    rintro t119 S119 ⟨rfl, A119, c119, rfl⟩
    refine tb 2 rfl ?_
    refine AWH.done (by kernel_rfl) ?_
    refine AW.rseq ?_
    refine AWL.y rfl rfl (B rfl) (Yv.move rfl (E rfl rfl)) ?_
    refine AWL.y rfl rfl (B rfl) (Yv.nilChk rfl (E rfl rfl)) ?_
    refine AWL.y rfl rfl (B rfl) (Yv.fieldBox rfl fo_49_0 (E rfl rfl)) ?_
    refine AWL.y rfl rfl (B rfl) (Yv.loadBox rfl ag_24 (i := 1) rfl (E rfl rfl) rfl) ?_
    refine AWL.y rfl rfl (B rfl) (Yv.assign rfl (E rfl rfl)) ?_
    refine AWL.y rfl rfl (B rfl) (Yv.assign rfl (E rfl rfl)) ?_
    refine AWL.nil ?_
    refine AW.drop (List.take_sublist 1 _) ?_
    refine AW.ret (retI (.tmp rfl (.tmp rfl .nil)) ?_)
    rw [if_pos hval]
    refine enc_end ?_
    rw [enc4 (by rw [h51t]; rfl)]
    skip
    try simp only [List.append_assoc]
    rfl
   ·
    refine AWL.buildSlice1 rfl rfl (B rfl) rfl el_43 rfl (evsC (E rfl rfl) evs0) (Nat.le_of_ble_eq_true rfl) rfl rfl ?_
    refine tb 2 rfl ?_
    refine AWH.one (i := 3) (by kernel_rfl) rfl ?_
    refine AWL.call rfl rfl (B rfl) rfl ce_27 (E rfl rfl) (evsC (E rfl rfl) (evsC (E rfl rfl) (evsC (E rfl rfl) (evsC (E rfl rfl) evs0)))) (S1 := CB _ _ _ _) (S2 := [_]) rfl (rex34 _ _ _ _ _ _ _) ?_
    rintro t112 S112 ⟨rfl, A112, c112, rfl⟩
    refine tb 2 rfl ?_
    refine AWH.one (i := 6) (by kernel_rfl) rfl ?_
    refine AWL.call rfl rfl (B rfl) rfl ce_28 (E rfl rfl) (evsC (E rfl rfl) (evsC (E rfl rfl) evs0)) (S1 := CB _ _ _ _) (S2 := [_]) rfl (put35 _ _ _ _ [_]) ?_
    rintro t115 S115 ⟨rfl, A115, c115, rfl⟩
    refine tb 2 rfl ?_
    refine AWH.one (i := 10) (by kernel_rfl) rfl ?_
    refine AWL.call rfl rfl (B rfl) rfl ce_29 (E rfl rfl) (evsC (E rfl rfl) (evsC (E rfl rfl) (evsC (E rfl rfl) evs0))) (S1 := CB _ _ _ _) (S2 := [_]) rfl (two36 _ _ _ _ _ _) ?_
    rintro t119 S119 ⟨rfl, A119, c119, rfl⟩
    refine tb 2 rfl ?_
    refine AWH.done (by kernel_rfl) ?_
    refine AW.rseq ?_
    refine AWL.y rfl rfl (B rfl) (Yv.move rfl (E rfl rfl)) ?_
    refine AWL.y rfl rfl (B rfl) (Yv.nilChk rfl (E rfl rfl)) ?_
    refine AWL.y rfl rfl (B rfl) (Yv.fieldBox rfl fo_49_0 (E rfl rfl)) ?_
    refine AWL.y rfl rfl (B rfl) (Yv.loadBox rfl ag_24 (i := 1) rfl (E rfl rfl) rfl) ?_
    refine AWL.y rfl rfl (B rfl) (Yv.assign rfl (E rfl rfl)) ?_
    refine AWL.y rfl rfl (B rfl) (Yv.assign rfl (E rfl rfl)) ?_
    refine AWL.nil ?_
    refine AW.drop (List.take_sublist 1 _) ?_
    refine AW.ret (retI (.tmp rfl (.tmp rfl .nil)) ?_)
    rw [if_pos hval]
    refine enc_end ?_
    rw [enc4 (by rw [h51t]; rfl)]
    skip
    try simp only [List.append_assoc]
    rfl
  try replace h51f := of_decide_eq_false h51f
  refine AW.rseq ?_
  refine AWL.y rfl rfl (B rfl) (Yv.eql rfl (E rfl rfl) (E rfl rfl)) ?_
  refine AWL.y rfl rfl (B rfl) (Yv.assign rfl (E rfl rfl)) ?_
  refine AWL.nil ?_
  refine AW.cond rfl (fun h52t => ?_) (fun h52f => ?_)
  ·
   try replace h52t := of_decide_eq_true h52t
   refine AW.rseq ?_
   refine AWL.y rfl rfl (B rfl) (Yv.fieldBox rfl fo_23_5 (E rfl rfl)) ?_
   refine AWL.y rfl rfl (B rfl) (Yv.loadBox rfl ag_2 (i := 2) rfl (E rfl rfl) rfl) ?_
   refine AWL.callP rfl rfl (B rfl) rfl ce_31 (E rfl rfl) (evsC (E rfl rfl) evs0) (small38 i.imm) (fun t S h => h) ?_
   refine AWL.nil ?_
   refine AW.cond rfl (fun h53t => ?_) (fun h53f => ?_)
   ·
    try replace h53t := of_decide_eq_true h53t
    refine AW.regionH (HeldBox b1 (insVals i)) rfl (tells_box (k := 2) rfl) ?_
    refine AWH.tk (i := 0) rfl rfl rfl (B rfl) (heldAll (freeMove rfl (E rfl rfl))) ?_
    refine AWH.tk (i := 1) rfl rfl rfl (B rfl) (heldAll (freeField rfl fo_23_1 (E rfl rfl))) ?_
    refine AWH.tk (i := 2) rfl rfl rfl (B rfl) (heldLoad rfl ag_3 (E rfl rfl) rfl) ?_
    refine AWH.tk (i := 6) rfl rfl rfl (B rfl) (heldAll (freeField rfl fo_23_1 (E rfl rfl))) ?_
    refine AWH.tk (i := 7) rfl rfl rfl (B rfl) (heldLoad rfl ag_3 (E rfl rfl) rfl) ?_
    refine AWH.tk (i := 9) rfl rfl rfl (B rfl) (heldAll (freeField rfl fo_23_5 (E rfl rfl))) ?_
    refine AWH.tk (i := 10) rfl rfl rfl (B rfl) (heldLoad rfl ag_2 (E rfl rfl) rfl) ?_
    refine AWH.two (i := 3) (j := 4) (by kernel_rfl) rfl rfl ?_ ?_
    ·
     refine AWL.call rfl rfl (B rfl) rfl ce_27 (E rfl rfl) (evsC (E rfl rfl) (evsC (E rfl rfl) (evsC (E rfl rfl) (evsC (E rfl rfl) evs0)))) (S1 := CB _ _ _ _) (S2 := [_]) rfl (rex34 _ _ _ _ _ _ _) ?_
     rintro t128 S128 ⟨rfl, A128, c128, rfl⟩
     refine tb 2 rfl ?_
     refine AWH.one (i := 4) (by kernel_rfl) rfl ?_
     refine AWL.buildSlice1 rfl rfl (B rfl) rfl el_43 rfl (evsC (E rfl rfl) evs0) (Nat.le_of_ble_eq_true rfl) rfl rfl ?_
     refine tb 2 rfl ?_
     refine AWH.one (i := 5) (by kernel_rfl) rfl ?_
     refine AWL.call rfl rfl (B rfl) rfl ce_28 (E rfl rfl) (evsC (E rfl rfl) (evsC (E rfl rfl) evs0)) (S1 := CB _ _ _ _) (S2 := [_]) rfl (put35 _ _ _ _ [_]) ?_
     rintro t130 S130 ⟨rfl, A130, c130, rfl⟩
     refine tb 2 rfl ?_
     refine AWH.one (i := 8) (by kernel_rfl) rfl ?_
     refine AWL.call rfl rfl (B rfl) rfl ce_29 (E rfl rfl) (evsC (E rfl rfl) (evsC (E rfl rfl) (evsC (E rfl rfl) evs0))) (S1 := CB _ _ _ _) (S2 := [_]) rfl (two36 _ _ _ _ _ _) ?_
     rintro t133 S133 ⟨rfl, A133, c133, rfl⟩
     refine tb 2 rfl ?_
     refine AWH.one (i := 11) (by kernel_rfl) rfl ?_
     refine AWL.call rfl rfl (B rfl) rfl ce_30 (E rfl rfl) (evsC (E rfl rfl) (evsC (E rfl rfl) (evsC (E rfl rfl) evs0))) (S1 := CB _ _ _ _) (S2 := [_]) rfl (imm37 _ _ _ _ _ 4) ?_
     rintro t136 S136 ⟨rfl, A136, c136, rfl⟩
     refine tb 2 rfl ?_
     refine AWH.done (by kernel_rfl) ?_
     refine AW.rseq ?_
     refine AWL.y rfl rfl (B rfl) (Yv.move rfl (E rfl rfl)) ?_
     refine AWL.y rfl rfl (B rfl) (Yv.nilChk rfl (E rfl rfl)) ?_
     refine AWL.y rfl rfl (B rfl) (Yv.fieldBox rfl fo_49_0 (E rfl rfl)) ?_
     refine AWL.y rfl rfl (B rfl) (Yv.loadBox rfl ag_24 (i := 1) rfl (E rfl rfl) rfl) ?_
     refine AWL.y rfl rfl (B rfl) (Yv.assign rfl (E rfl rfl)) ?_
     refine AWL.y rfl rfl (B rfl) (Yv.assign rfl (E rfl rfl)) ?_
     refine AWL.nil ?_
     refine AW.drop (List.take_sublist 1 _) ?_
     refine AW.ret (retI (.tmp rfl (.tmp rfl .nil)) ?_)
     rw [if_pos hval]
     refine enc_end ?_
     rw [enc5 (by rw [h52t]; rfl), if_pos (by assumption)]
     skip
     try simp only [List.append_assoc]
     rfl
    ·
     refine AWL.buildSlice1 rfl rfl (B rfl) rfl el_43 rfl (evsC (E rfl rfl) evs0) (Nat.le_of_ble_eq_true rfl) rfl rfl ?_
     refine tb 2 rfl ?_
     refine AWH.one (i := 3) (by kernel_rfl) rfl ?_
     refine AWL.call rfl rfl (B rfl) rfl ce_27 (E rfl rfl) (evsC (E rfl rfl) (evsC (E rfl rfl) (evsC (E rfl rfl) (evsC (E rfl rfl) evs0)))) (S1 := CB _ _ _ _) (S2 := [_]) rfl (rex34 _ _ _ _ _ _ _) ?_
     rintro t128 S128 ⟨rfl, A128, c128, rfl⟩
     refine tb 2 rfl ?_
     refine AWH.one (i := 5) (by kernel_rfl) rfl ?_
     refine AWL.call rfl rfl (B rfl) rfl ce_28 (E rfl rfl) (evsC (E rfl rfl) (evsC (E rfl rfl) evs0)) (S1 := CB _ _ _ _) (S2 := [_]) rfl (put35 _ _ _ _ [_]) ?_
     rintro t130 S130 ⟨rfl, A130, c130, rfl⟩
     refine tb 2 rfl ?_
     refine AWH.one (i := 8) (by kernel_rfl) rfl ?_
     refine AWL.call rfl rfl (B rfl) rfl ce_29 (E rfl rfl) (evsC (E rfl rfl) (evsC (E rfl rfl) (evsC (E rfl rfl) evs0))) (S1 := CB _ _ _ _) (S2 := [_]) rfl (two36 _ _ _ _ _ _) ?_
     rintro t133 S133 ⟨rfl, A133, c133, rfl⟩
     refine tb 2 rfl ?_
     refine AWH.one (i := 11) (by kernel_rfl) rfl ?_
     refine AWL.call rfl rfl (B rfl) rfl ce_30 (E rfl rfl) (evsC (E rfl rfl) (evsC (E rfl rfl) (evsC (E rfl rfl) evs0))) (S1 := CB _ _ _ _) (S2 := [_]) rfl (imm37 _ _ _ _ _ 4) ?_
     rintro t136 S136 ⟨rfl, A136, c136, rfl⟩
     refine tb 2 rfl ?_
     refine AWH.done (by kernel_rfl) ?_
     refine AW.rseq ?_
     refine AWL.y rfl rfl (B rfl) (Yv.move rfl (E rfl rfl)) ?_
     refine AWL.y rfl rfl (B rfl) (Yv.nilChk rfl (E rfl rfl)) ?_
     refine AWL.y rfl rfl (B rfl) (Yv.fieldBox rfl fo_49_0 (E rfl rfl)) ?_
     refine AWL.y rfl rfl (B rfl) (Yv.loadBox rfl ag_24 (i := 1) rfl (E rfl rfl) rfl) ?_
     refine AWL.y rfl rfl (B rfl) (Yv.assign rfl (E rfl rfl)) ?_
     refine AWL.y rfl rfl (B rfl) (Yv.assign rfl (E rfl rfl)) ?_
     refine AWL.nil ?_
     refine AW.drop (List.take_sublist 1 _) ?_
     refine AW.ret (retI (.tmp rfl (.tmp rfl .nil)) ?_)
     rw [if_pos hval]
     refine enc_end ?_
     rw [enc5 (by rw [h52t]; rfl), if_pos (by assumption)]
     skip
     try simp only [List.append_assoc]
     rfl
   try replace h53f := of_decide_eq_false h53f
   refine AW.regionH (HeldBox b1 (insVals i)) rfl (tells_box (k := 2) rfl) ?_
   refine AWH.tk (i := 0) rfl rfl rfl (B rfl) (heldAll (freeMove rfl (E rfl rfl))) ?_
   refine AWH.tk (i := 1) rfl rfl rfl (B rfl) (heldAll (freeField rfl fo_23_1 (E rfl rfl))) ?_
   refine AWH.tk (i := 2) rfl rfl rfl (B rfl) (heldLoad rfl ag_3 (E rfl rfl) rfl) ?_
   refine AWH.tk (i := 4) rfl rfl rfl (B rfl) (heldAll (freeField rfl fo_23_1 (E rfl rfl))) ?_
   refine AWH.tk (i := 5) rfl rfl rfl (B rfl) (heldLoad rfl ag_3 (E rfl rfl) rfl) ?_
   refine AWH.tk (i := 10) rfl rfl rfl (B rfl) (heldAll (freeField rfl fo_23_5 (E rfl rfl))) ?_
   refine AWH.tk (i := 11) rfl rfl rfl (B rfl) (heldLoad rfl ag_2 (E rfl rfl) rfl) ?_
   refine AWH.two (i := 3) (j := 6) (by kernel_rfl) rfl rfl ?_ ?_
   ·
    refine AWL.call rfl rfl (B rfl) rfl ce_27 (E rfl rfl) (evsC (E rfl rfl) (evsC (E rfl rfl) (evsC (E rfl rfl) (evsC (E rfl rfl) evs0)))) (S1 := CB _ _ _ _) (S2 := [_]) rfl (rex34 _ _ _ _ _ _ _) ?_
    rintro t140 S140 ⟨rfl, A140, c140, rfl⟩
    refine tb 2 rfl ?_
    refine AWH.one (i := 6) (by kernel_rfl) rfl ?_
    refine AWL.y rfl rfl (B rfl) (Yv.andN_i64 3 8 (by decide) (by decide) (by decide) rfl (E rfl rfl) (E rfl rfl) (fun hg => ⟨by omega, by omega⟩)) ?_
    refine tb 2 rfl ?_
    refine AWH.one (i := 7) (by kernel_rfl) rfl ?_
    refine AWL.y rfl rfl (B rfl) (Yv.bits rfl rfl (E rfl rfl) (E rfl rfl)) ?_
    refine tb 2 rfl ?_
    refine AWH.one (i := 8) (by kernel_rfl) rfl ?_
    refine AWL.buildSlice1 rfl rfl (B rfl) rfl el_43 rfl (evsC (E rfl rfl) evs0) (Nat.le_of_ble_eq_true rfl) rfl rfl ?_
    refine tb 2 rfl ?_
    refine AWH.one (i := 9) (by kernel_rfl) rfl ?_
    refine AWL.call rfl rfl (B rfl) rfl ce_28 (E rfl rfl) (evsC (E rfl rfl) (evsC (E rfl rfl) evs0)) (S1 := CB _ _ _ _) (S2 := [_]) rfl (put35 _ _ _ _ [_]) ?_
    rintro t146 S146 ⟨rfl, A146, c146, rfl⟩
    refine tb 2 rfl ?_
    refine AWH.one (i := 12) (by kernel_rfl) rfl ?_
    refine AWL.call rfl rfl (B rfl) rfl ce_30 (E rfl rfl) (evsC (E rfl rfl) (evsC (E rfl rfl) (evsC (E rfl rfl) evs0))) (S1 := CB _ _ _ _) (S2 := [_]) rfl (imm37 _ _ _ _ _ 8) ?_
    rintro t149 S149 ⟨rfl, A149, c149, rfl⟩
    refine tb 2 rfl ?_
    refine AWH.done (by kernel_rfl) ?_
    refine AW.rseq ?_
    refine AWL.y rfl rfl (B rfl) (Yv.move rfl (E rfl rfl)) ?_
    refine AWL.y rfl rfl (B rfl) (Yv.nilChk rfl (E rfl rfl)) ?_
    refine AWL.y rfl rfl (B rfl) (Yv.fieldBox rfl fo_49_0 (E rfl rfl)) ?_
    refine AWL.y rfl rfl (B rfl) (Yv.loadBox rfl ag_24 (i := 1) rfl (E rfl rfl) rfl) ?_
    refine AWL.y rfl rfl (B rfl) (Yv.assign rfl (E rfl rfl)) ?_
    refine AWL.y rfl rfl (B rfl) (Yv.assign rfl (E rfl rfl)) ?_
    refine AWL.nil ?_
    refine AW.drop (List.take_sublist 1 _) ?_
    refine AW.ret (retI (.tmp rfl (.tmp rfl .nil)) ?_)
    rw [if_pos hval]
    refine enc_end ?_
    rw [enc5 (by rw [h52t]; rfl), if_neg (ne_true_of_eq_false (by assumption))]
    rw [← r3]
    try simp only [List.append_assoc]
    rfl
   ·
    refine AWL.y rfl rfl (B rfl) (Yv.andN_i64 3 8 (by decide) (by decide) (by decide) rfl (E rfl rfl) (E rfl rfl) (fun hg => ⟨by omega, by omega⟩)) ?_
    refine tb 2 rfl ?_
    refine AWH.two (i := 3) (j := 7) (by kernel_rfl) rfl rfl ?_ ?_
    ·
     refine AWL.call rfl rfl (B rfl) rfl ce_27 (E rfl rfl) (evsC (E rfl rfl) (evsC (E rfl rfl) (evsC (E rfl rfl) (evsC (E rfl rfl) evs0)))) (S1 := CB _ _ _ _) (S2 := [_]) rfl (rex34 _ _ _ _ _ _ _) ?_
     rintro t140 S140 ⟨rfl, A140, c140, rfl⟩
     refine tb 2 rfl ?_
     refine AWH.one (i := 7) (by kernel_rfl) rfl ?_
     refine AWL.y rfl rfl (B rfl) (Yv.bits rfl rfl (E rfl rfl) (E rfl rfl)) ?_
     refine tb 2 rfl ?_
     refine AWH.one (i := 8) (by kernel_rfl) rfl ?_
     refine AWL.buildSlice1 rfl rfl (B rfl) rfl el_43 rfl (evsC (E rfl rfl) evs0) (Nat.le_of_ble_eq_true rfl) rfl rfl ?_
     refine tb 2 rfl ?_
     refine AWH.one (i := 9) (by kernel_rfl) rfl ?_
     refine AWL.call rfl rfl (B rfl) rfl ce_28 (E rfl rfl) (evsC (E rfl rfl) (evsC (E rfl rfl) evs0)) (S1 := CB _ _ _ _) (S2 := [_]) rfl (put35 _ _ _ _ [_]) ?_
     rintro t146 S146 ⟨rfl, A146, c146, rfl⟩
     refine tb 2 rfl ?_
     refine AWH.one (i := 12) (by kernel_rfl) rfl ?_
     refine AWL.call rfl rfl (B rfl) rfl ce_30 (E rfl rfl) (evsC (E rfl rfl) (evsC (E rfl rfl) (evsC (E rfl rfl) evs0))) (S1 := CB _ _ _ _) (S2 := [_]) rfl (imm37 _ _ _ _ _ 8) ?_
     rintro t149 S149 ⟨rfl, A149, c149, rfl⟩
     refine tb 2 rfl ?_
     refine AWH.done (by kernel_rfl) ?_
     refine AW.rseq ?_
     refine AWL.y rfl rfl (B rfl) (Yv.move rfl (E rfl rfl)) ?_
     refine AWL.y rfl rfl (B rfl) (Yv.nilChk rfl (E rfl rfl)) ?_
     refine AWL.y rfl rfl (B rfl) (Yv.fieldBox rfl fo_49_0 (E rfl rfl)) ?_
     refine AWL.y rfl rfl (B rfl) (Yv.loadBox rfl ag_24 (i := 1) rfl (E rfl rfl) rfl) ?_
     refine AWL.y rfl rfl (B rfl) (Yv.assign rfl (E rfl rfl)) ?_
     refine AWL.y rfl rfl (B rfl) (Yv.assign rfl (E rfl rfl)) ?_
     refine AWL.nil ?_
     refine AW.drop (List.take_sublist 1 _) ?_
     refine AW.ret (retI (.tmp rfl (.tmp rfl .nil)) ?_)
     rw [if_pos hval]
     refine enc_end ?_
     rw [enc5 (by rw [h52t]; rfl), if_neg (ne_true_of_eq_false (by assumption))]
     rw [← r3]
     try simp only [List.append_assoc]
     rfl
    ·
     refine AWL.y rfl rfl (B rfl) (Yv.bits rfl rfl (E rfl rfl) (E rfl rfl)) ?_
     refine tb 2 rfl ?_
     refine AWH.two (i := 3) (j := 8) (by kernel_rfl) rfl rfl ?_ ?_
     ·
      refine AWL.call rfl rfl (B rfl) rfl ce_27 (E rfl rfl) (evsC (E rfl rfl) (evsC (E rfl rfl) (evsC (E rfl rfl) (evsC (E rfl rfl) evs0)))) (S1 := CB _ _ _ _) (S2 := [_]) rfl (rex34 _ _ _ _ _ _ _) ?_
      rintro t140 S140 ⟨rfl, A140, c140, rfl⟩
      refine tb 2 rfl ?_
      refine AWH.one (i := 8) (by kernel_rfl) rfl ?_
      refine AWL.buildSlice1 rfl rfl (B rfl) rfl el_43 rfl (evsC (E rfl rfl) evs0) (Nat.le_of_ble_eq_true rfl) rfl rfl ?_
      refine tb 2 rfl ?_
      refine AWH.one (i := 9) (by kernel_rfl) rfl ?_
      refine AWL.call rfl rfl (B rfl) rfl ce_28 (E rfl rfl) (evsC (E rfl rfl) (evsC (E rfl rfl) evs0)) (S1 := CB _ _ _ _) (S2 := [_]) rfl (put35 _ _ _ _ [_]) ?_
      rintro t146 S146 ⟨rfl, A146, c146, rfl⟩
      refine tb 2 rfl ?_
      refine AWH.one (i := 12) (by kernel_rfl) rfl ?_
      refine AWL.call rfl rfl (B rfl) rfl ce_30 (E rfl rfl) (evsC (E rfl rfl) (evsC (E rfl rfl) (evsC (E rfl rfl) evs0))) (S1 := CB _ _ _ _) (S2 := [_]) rfl (imm37 _ _ _ _ _ 8) ?_
      rintro t149 S149 ⟨rfl, A149, c149, rfl⟩
      refine tb 2 rfl ?_
      refine AWH.done (by kernel_rfl) ?_
      refine AW.rseq ?_
      refine AWL.y rfl rfl (B rfl) (Yv.move rfl (E rfl rfl)) ?_
      refine AWL.y rfl rfl (B rfl) (Yv.nilChk rfl (E rfl rfl)) ?_
      refine AWL.y rfl rfl (B rfl) (Yv.fieldBox rfl fo_49_0 (E rfl rfl)) ?_
      refine AWL.y rfl rfl (B rfl) (Yv.loadBox rfl ag_24 (i := 1) rfl (E rfl rfl) rfl) ?_
      refine AWL.y rfl rfl (B rfl) (Yv.assign rfl (E rfl rfl)) ?_
      refine AWL.y rfl rfl (B rfl) (Yv.assign rfl (E rfl rfl)) ?_
      refine AWL.nil ?_
      refine AW.drop (List.take_sublist 1 _) ?_
      refine AW.ret (retI (.tmp rfl (.tmp rfl .nil)) ?_)
      rw [if_pos hval]
      refine enc_end ?_
      rw [enc5 (by rw [h52t]; rfl), if_neg (ne_true_of_eq_false (by assumption))]
      rw [← r3]
      try simp only [List.append_assoc]
      rfl
     ·
      refine AWL.buildSlice1 rfl rfl (B rfl) rfl el_43 rfl (evsC (E rfl rfl) evs0) (Nat.le_of_ble_eq_true rfl) rfl rfl ?_
      refine tb 2 rfl ?_
      refine AWH.one (i := 3) (by kernel_rfl) rfl ?_
      refine AWL.call rfl rfl (B rfl) rfl ce_27 (E rfl rfl) (evsC (E rfl rfl) (evsC (E rfl rfl) (evsC (E rfl rfl) (evsC (E rfl rfl) evs0)))) (S1 := CB _ _ _ _) (S2 := [_]) rfl (rex34 _ _ _ _ _ _ _) ?_
      rintro t140 S140 ⟨rfl, A140, c140, rfl⟩
      refine tb 2 rfl ?_
      refine AWH.one (i := 9) (by kernel_rfl) rfl ?_
      refine AWL.call rfl rfl (B rfl) rfl ce_28 (E rfl rfl) (evsC (E rfl rfl) (evsC (E rfl rfl) evs0)) (S1 := CB _ _ _ _) (S2 := [_]) rfl (put35 _ _ _ _ [_]) ?_
      rintro t146 S146 ⟨rfl, A146, c146, rfl⟩
      refine tb 2 rfl ?_
      refine AWH.one (i := 12) (by kernel_rfl) rfl ?_
      refine AWL.call rfl rfl (B rfl) rfl ce_30 (E rfl rfl) (evsC (E rfl rfl) (evsC (E rfl rfl) (evsC (E rfl rfl) evs0))) (S1 := CB _ _ _ _) (S2 := [_]) rfl (imm37 _ _ _ _ _ 8) ?_
      rintro t149 S149 ⟨rfl, A149, c149, rfl⟩
      refine tb 2 rfl ?_
      refine AWH.done (by kernel_rfl) ?_
      refine AW.rseq ?_
      refine AWL.y rfl rfl (B rfl) (Yv.move rfl (E rfl rfl)) ?_
      refine AWL.y rfl rfl (B rfl) (Yv.nilChk rfl (E rfl rfl)) ?_
      refine AWL.y rfl rfl (B rfl) (Yv.fieldBox rfl fo_49_0 (E rfl rfl)) ?_
      refine AWL.y rfl rfl (B rfl) (Yv.loadBox rfl ag_24 (i := 1) rfl (E rfl rfl) rfl) ?_
      refine AWL.y rfl rfl (B rfl) (Yv.assign rfl (E rfl rfl)) ?_
      refine AWL.y rfl rfl (B rfl) (Yv.assign rfl (E rfl rfl)) ?_
      refine AWL.nil ?_
      refine AW.drop (List.take_sublist 1 _) ?_
      refine AW.ret (retI (.tmp rfl (.tmp rfl .nil)) ?_)
      rw [if_pos hval]
      refine enc_end ?_
      rw [enc5 (by rw [h52t]; rfl), if_neg (ne_true_of_eq_false (by assumption))]
      rw [← r3]
      try simp only [List.append_assoc]
      rfl
  try replace h52f := of_decide_eq_false h52f
  refine AW.seq ?_
  refine AW.rseq ?_
  refine AWL.y rfl rfl (B rfl) (Yv.eql rfl (E rfl rfl) (E rfl rfl)) ?_
  refine AWL.y rfl rfl (B rfl) (Yv.assign rfl (E rfl rfl)) ?_
  refine AWL.nil ?_
  refine AW.cond rfl (fun h54t => ?_) (fun h54f => ?_)
  ·
   try replace h54t := of_decide_eq_true h54t
   refine AW.skip ?_
   refine AW.cond rfl (fun h55t => ?_) (fun h55f => ?_)
   ·
    try replace h55t := of_decide_eq_true h55t
    refine AW.region ?_
    refine AWL.y rfl rfl (B rfl) (Yv.move rfl (E rfl rfl)) ?_
    refine AWL.y rfl rfl (B rfl) (Yv.loadBoxA rfl ag_23 (i := 2) rfl (E rfl rfl) rfl rfl) ?_
    refine AWL.call rfl rfl (B rfl) rfl ce_32 (E rfl rfl) (evsC (E rfl rfl) (evsC (E rfl rfl) evs0)) (S1 := CB _ _ _ _) (S2 := [_]) rfl (memory39 b11 _ _ _ i hd hs hc (by simp)) ?_
    rintro t156 S156 ⟨A156, c156, e156, rfl⟩
    refine AWL.nil ?_
    refine AW.rseq ?_
    refine AWL.y rfl rfl (B rfl) (Yv.move rfl (E rfl rfl)) ?_
    refine AWL.y rfl rfl (B rfl) (Yv.nilChk rfl (E rfl rfl)) ?_
    refine AWL.y rfl rfl (B rfl) (Yv.fieldBox rfl fo_49_0 (E rfl rfl)) ?_
    refine AWL.y rfl rfl (B rfl) (Yv.loadBox rfl ag_24 (i := 1) rfl (E rfl rfl) rfl) ?_
    refine AWL.y rfl rfl (B rfl) (Yv.assign rfl (E rfl rfl)) ?_
    refine AWL.y rfl rfl (B rfl) (Yv.assign rfl (E rfl rfl)) ?_
    refine AWL.nil ?_
    refine AW.drop (List.take_sublist 1 _) ?_
    refine AW.ret (retI (.tmp rfl (.tmp rfl .nil)) ?_)
    rw [if_pos hval]
    refine enc_end ?_
    rw [enc6 (by rw [h54t]; rfl)]
    skip
    try simp only [List.append_assoc]
    rfl
   · exfalso; replace h55f := of_decide_eq_false h55f; omega
  try replace h54f := of_decide_eq_false h54f
  refine AW.rseq ?_
  refine AWL.y rfl rfl (B rfl) (Yv.eql rfl (E rfl rfl) (E rfl rfl)) ?_
  refine AWL.y rfl rfl (B rfl) (Yv.assign rfl (E rfl rfl)) ?_
  refine AWL.nil ?_
  refine AW.cond rfl (fun h56t => ?_) (fun h56f => ?_)
  ·
   try replace h56t := of_decide_eq_true h56t
   refine AW.skip ?_
   refine AW.cond rfl (fun h57t => ?_) (fun h57f => ?_)
   ·
    try replace h57t := of_decide_eq_true h57t
    refine AW.region ?_
    refine AWL.y rfl rfl (B rfl) (Yv.move rfl (E rfl rfl)) ?_
    refine AWL.y rfl rfl (B rfl) (Yv.loadBoxA rfl ag_23 (i := 2) rfl (E rfl rfl) rfl rfl) ?_
    refine AWL.call rfl rfl (B rfl) rfl ce_32 (E rfl rfl) (evsC (E rfl rfl) (evsC (E rfl rfl) evs0)) (S1 := CB _ _ _ _) (S2 := [_]) rfl (memory39 b11 _ _ _ i hd hs hc (by simp)) ?_
    rintro t156 S156 ⟨A156, c156, e156, rfl⟩
    refine AWL.nil ?_
    refine AW.rseq ?_
    refine AWL.y rfl rfl (B rfl) (Yv.move rfl (E rfl rfl)) ?_
    refine AWL.y rfl rfl (B rfl) (Yv.nilChk rfl (E rfl rfl)) ?_
    refine AWL.y rfl rfl (B rfl) (Yv.fieldBox rfl fo_49_0 (E rfl rfl)) ?_
    refine AWL.y rfl rfl (B rfl) (Yv.loadBox rfl ag_24 (i := 1) rfl (E rfl rfl) rfl) ?_
    refine AWL.y rfl rfl (B rfl) (Yv.assign rfl (E rfl rfl)) ?_
    refine AWL.y rfl rfl (B rfl) (Yv.assign rfl (E rfl rfl)) ?_
    refine AWL.nil ?_
    refine AW.drop (List.take_sublist 1 _) ?_
    refine AW.ret (retI (.tmp rfl (.tmp rfl .nil)) ?_)
    rw [if_pos hval]
    refine enc_end ?_
    rw [enc6 (by rw [h56t]; rfl)]
    skip
    try simp only [List.append_assoc]
    rfl
   · exfalso; replace h57f := of_decide_eq_false h57f; omega
  try replace h56f := of_decide_eq_false h56f
  refine AW.region ?_
  refine AWL.y rfl rfl (B rfl) (Yv.eql rfl (E rfl rfl) (E rfl rfl)) ?_
  refine AWL.y rfl rfl (B rfl) (Yv.assign rfl (E rfl rfl)) ?_
  refine AWL.nil ?_
  refine AW.cond rfl (fun h58t => ?_) (fun h58f => ?_)
  ·
   try replace h58t := of_decide_eq_true h58t
   refine AW.region ?_
   refine AWL.y rfl rfl (B rfl) (Yv.move rfl (E rfl rfl)) ?_
   refine AWL.y rfl rfl (B rfl) (Yv.loadBoxA rfl ag_23 (i := 2) rfl (E rfl rfl) rfl rfl) ?_
   refine AWL.call rfl rfl (B rfl) rfl ce_32 (E rfl rfl) (evsC (E rfl rfl) (evsC (E rfl rfl) evs0)) (S1 := CB _ _ _ _) (S2 := [_]) rfl (memory39 b11 _ _ _ i hd hs hc (by simp)) ?_
   rintro t156 S156 ⟨A156, c156, e156, rfl⟩
   refine AWL.nil ?_
   refine AW.rseq ?_
   refine AWL.y rfl rfl (B rfl) (Yv.move rfl (E rfl rfl)) ?_
   refine AWL.y rfl rfl (B rfl) (Yv.nilChk rfl (E rfl rfl)) ?_
   refine AWL.y rfl rfl (B rfl) (Yv.fieldBox rfl fo_49_0 (E rfl rfl)) ?_
   refine AWL.y rfl rfl (B rfl) (Yv.loadBox rfl ag_24 (i := 1) rfl (E rfl rfl) rfl) ?_
   refine AWL.y rfl rfl (B rfl) (Yv.assign rfl (E rfl rfl)) ?_
   refine AWL.y rfl rfl (B rfl) (Yv.assign rfl (E rfl rfl)) ?_
   refine AWL.nil ?_
   refine AW.drop (List.take_sublist 1 _) ?_
   refine AW.ret (retI (.tmp rfl (.tmp rfl .nil)) ?_)
   rw [if_pos hval]
   refine enc_end ?_
   rw [enc6 (by rw [h58t]; rfl)]
   skip
   try simp only [List.append_assoc]
   rfl
  try replace h58f := of_decide_eq_false h58f
  refine AW.rseq ?_
  refine AWL.y rfl rfl (B rfl) (Yv.eql rfl (E rfl rfl) (E rfl rfl)) ?_
  refine AWL.y rfl rfl (B rfl) (Yv.assign rfl (E rfl rfl)) ?_
  refine AWL.nil ?_
  refine AW.cond rfl (fun h59t => ?_) (fun h59f => ?_)
  ·
   try replace h59t := of_decide_eq_true h59t
   refine AW.regionH (HeldBox b1 (insVals i)) rfl (tells_box (k := 2) rfl) ?_
   refine AWH.tk (i := 0) rfl rfl rfl (B rfl) (heldAll (freeMove rfl (E rfl rfl))) ?_
   refine AWH.tk (i := 1) rfl rfl rfl (B rfl) (heldAll (freeField rfl fo_23_1 (E rfl rfl))) ?_
   refine AWH.tk (i := 2) rfl rfl rfl (B rfl) (heldLoad rfl ag_3 (E rfl rfl) rfl) ?_
   refine AWH.tk (i := 4) rfl rfl rfl (B rfl) (heldAll (freeField rfl fo_23_1 (E rfl rfl))) ?_
   refine AWH.tk (i := 5) rfl rfl rfl (B rfl) (heldLoad rfl ag_3 (E rfl rfl) rfl) ?_
   refine AWH.two (i := 3) (j := 6) (by kernel_rfl) rfl rfl ?_ ?_
   ·
    refine AWL.call rfl rfl (B rfl) rfl ce_27 (E rfl rfl) (evsC (E rfl rfl) (evsC (E rfl rfl) (evsC (E rfl rfl) (evsC (E rfl rfl) evs0)))) (S1 := CB _ _ _ _) (S2 := [_]) rfl (rex34 _ _ _ _ _ _ _) ?_
    rintro t162 S162 ⟨rfl, A162, c162, rfl⟩
    refine tb 2 rfl ?_
    refine AWH.one (i := 6) (by kernel_rfl) rfl ?_
    refine AWL.y rfl rfl (B rfl) (Yv.andN_i64 3 8 (by decide) (by decide) (by decide) rfl (E rfl rfl) (E rfl rfl) (fun hg => ⟨by omega, by omega⟩)) ?_
    refine tb 2 rfl ?_
    refine AWH.one (i := 7) (by kernel_rfl) rfl ?_
    refine AWL.y rfl rfl (B rfl) (Yv.bits rfl rfl (E rfl rfl) (E rfl rfl)) ?_
    refine tb 2 rfl ?_
    refine AWH.one (i := 8) (by kernel_rfl) rfl ?_
    refine AWL.buildSlice1 rfl rfl (B rfl) rfl el_43 rfl (evsC (E rfl rfl) evs0) (Nat.le_of_ble_eq_true rfl) rfl rfl ?_
    refine tb 2 rfl ?_
    refine AWH.one (i := 9) (by kernel_rfl) rfl ?_
    refine AWL.call rfl rfl (B rfl) rfl ce_28 (E rfl rfl) (evsC (E rfl rfl) (evsC (E rfl rfl) evs0)) (S1 := CB _ _ _ _) (S2 := [_]) rfl (put35 _ _ _ _ [_]) ?_
    rintro t168 S168 ⟨rfl, A168, c168, rfl⟩
    refine tb 2 rfl ?_
    refine AWH.done (by kernel_rfl) ?_
    refine AW.rseq ?_
    refine AWL.y rfl rfl (B rfl) (Yv.move rfl (E rfl rfl)) ?_
    refine AWL.y rfl rfl (B rfl) (Yv.nilChk rfl (E rfl rfl)) ?_
    refine AWL.y rfl rfl (B rfl) (Yv.fieldBox rfl fo_49_0 (E rfl rfl)) ?_
    refine AWL.y rfl rfl (B rfl) (Yv.loadBox rfl ag_24 (i := 1) rfl (E rfl rfl) rfl) ?_
    refine AWL.y rfl rfl (B rfl) (Yv.assign rfl (E rfl rfl)) ?_
    refine AWL.y rfl rfl (B rfl) (Yv.assign rfl (E rfl rfl)) ?_
    refine AWL.nil ?_
    refine AW.drop (List.take_sublist 1 _) ?_
    refine AW.ret (retI (.tmp rfl (.tmp rfl .nil)) ?_)
    rw [if_pos hval]
    refine enc_end ?_
    rw [enc9 (by rw [h59t]; rfl)]
    rw [← r1]
    try simp only [List.append_assoc]
    rfl
   ·
    refine AWL.y rfl rfl (B rfl) (Yv.andN_i64 3 8 (by decide) (by decide) (by decide) rfl (E rfl rfl) (E rfl rfl) (fun hg => ⟨by omega, by omega⟩)) ?_
    refine tb 2 rfl ?_
    refine AWH.two (i := 3) (j := 7) (by kernel_rfl) rfl rfl ?_ ?_
    ·
     refine AWL.call rfl rfl (B rfl) rfl ce_27 (E rfl rfl) (evsC (E rfl rfl) (evsC (E rfl rfl) (evsC (E rfl rfl) (evsC (E rfl rfl) evs0)))) (S1 := CB _ _ _ _) (S2 := [_]) rfl (rex34 _ _ _ _ _ _ _) ?_
     rintro t162 S162 ⟨rfl, A162, c162, rfl⟩
     refine tb 2 rfl ?_
     refine AWH.one (i := 7) (by kernel_rfl) rfl ?_
     refine AWL.y rfl rfl (B rfl) (Yv.bits rfl rfl (E rfl rfl) (E rfl rfl)) ?_
     refine tb 2 rfl ?_
     refine AWH.one (i := 8) (by kernel_rfl) rfl ?_
     refine AWL.buildSlice1 rfl rfl (B rfl) rfl el_43 rfl (evsC (E rfl rfl) evs0) (Nat.le_of_ble_eq_true rfl) rfl rfl ?_
     refine tb 2 rfl ?_
     refine AWH.one (i := 9) (by kernel_rfl) rfl ?_
     refine AWL.call rfl rfl (B rfl) rfl ce_28 (E rfl rfl) (evsC (E rfl rfl) (evsC (E rfl rfl) evs0)) (S1 := CB _ _ _ _) (S2 := [_]) rfl (put35 _ _ _ _ [_]) ?_
     rintro t168 S168 ⟨rfl, A168, c168, rfl⟩
     refine tb 2 rfl ?_
     refine AWH.done (by kernel_rfl) ?_
     refine AW.rseq ?_
     refine AWL.y rfl rfl (B rfl) (Yv.move rfl (E rfl rfl)) ?_
     refine AWL.y rfl rfl (B rfl) (Yv.nilChk rfl (E rfl rfl)) ?_
     refine AWL.y rfl rfl (B rfl) (Yv.fieldBox rfl fo_49_0 (E rfl rfl)) ?_
     refine AWL.y rfl rfl (B rfl) (Yv.loadBox rfl ag_24 (i := 1) rfl (E rfl rfl) rfl) ?_
     refine AWL.y rfl rfl (B rfl) (Yv.assign rfl (E rfl rfl)) ?_
     refine AWL.y rfl rfl (B rfl) (Yv.assign rfl (E rfl rfl)) ?_
     refine AWL.nil ?_
     refine AW.drop (List.take_sublist 1 _) ?_
     refine AW.ret (retI (.tmp rfl (.tmp rfl .nil)) ?_)
     rw [if_pos hval]
     refine enc_end ?_
     rw [enc9 (by rw [h59t]; rfl)]
     rw [← r1]
     try simp only [List.append_assoc]
     rfl
    ·
     refine AWL.y rfl rfl (B rfl) (Yv.bits rfl rfl (E rfl rfl) (E rfl rfl)) ?_
     refine tb 2 rfl ?_
     refine AWH.two (i := 3) (j := 8) (by kernel_rfl) rfl rfl ?_ ?_
     ·
      refine AWL.call rfl rfl (B rfl) rfl ce_27 (E rfl rfl) (evsC (E rfl rfl) (evsC (E rfl rfl) (evsC (E rfl rfl) (evsC (E rfl rfl) evs0)))) (S1 := CB _ _ _ _) (S2 := [_]) rfl (rex34 _ _ _ _ _ _ _) ?_
      rintro t162 S162 ⟨rfl, A162, c162, rfl⟩
      refine tb 2 rfl ?_
      refine AWH.one (i := 8) (by kernel_rfl) rfl ?_
      refine AWL.buildSlice1 rfl rfl (B rfl) rfl el_43 rfl (evsC (E rfl rfl) evs0) (Nat.le_of_ble_eq_true rfl) rfl rfl ?_
      refine tb 2 rfl ?_
      refine AWH.one (i := 9) (by kernel_rfl) rfl ?_
      refine AWL.call rfl rfl (B rfl) rfl ce_28 (E rfl rfl) (evsC (E rfl rfl) (evsC (E rfl rfl) evs0)) (S1 := CB _ _ _ _) (S2 := [_]) rfl (put35 _ _ _ _ [_]) ?_
      rintro t168 S168 ⟨rfl, A168, c168, rfl⟩
      refine tb 2 rfl ?_
      refine AWH.done (by kernel_rfl) ?_
      refine AW.rseq ?_
      refine AWL.y rfl rfl (B rfl) (Yv.move rfl (E rfl rfl)) ?_
      refine AWL.y rfl rfl (B rfl) (Yv.nilChk rfl (E rfl rfl)) ?_
      refine AWL.y rfl rfl (B rfl) (Yv.fieldBox rfl fo_49_0 (E rfl rfl)) ?_
      refine AWL.y rfl rfl (B rfl) (Yv.loadBox rfl ag_24 (i := 1) rfl (E rfl rfl) rfl) ?_
      refine AWL.y rfl rfl (B rfl) (Yv.assign rfl (E rfl rfl)) ?_
      refine AWL.y rfl rfl (B rfl) (Yv.assign rfl (E rfl rfl)) ?_
      refine AWL.nil ?_
      refine AW.drop (List.take_sublist 1 _) ?_
      refine AW.ret (retI (.tmp rfl (.tmp rfl .nil)) ?_)
      rw [if_pos hval]
      refine enc_end ?_
      rw [enc9 (by rw [h59t]; rfl)]
      rw [← r1]
      try simp only [List.append_assoc]
      rfl
     ·
      refine AWL.buildSlice1 rfl rfl (B rfl) rfl el_43 rfl (evsC (E rfl rfl) evs0) (Nat.le_of_ble_eq_true rfl) rfl rfl ?_
      refine tb 2 rfl ?_
      refine AWH.one (i := 3) (by kernel_rfl) rfl ?_
      refine AWL.call rfl rfl (B rfl) rfl ce_27 (E rfl rfl) (evsC (E rfl rfl) (evsC (E rfl rfl) (evsC (E rfl rfl) (evsC (E rfl rfl) evs0)))) (S1 := CB _ _ _ _) (S2 := [_]) rfl (rex34 _ _ _ _ _ _ _) ?_
      rintro t162 S162 ⟨rfl, A162, c162, rfl⟩
      refine tb 2 rfl ?_
      refine AWH.one (i := 9) (by kernel_rfl) rfl ?_
      refine AWL.call rfl rfl (B rfl) rfl ce_28 (E rfl rfl) (evsC (E rfl rfl) (evsC (E rfl rfl) evs0)) (S1 := CB _ _ _ _) (S2 := [_]) rfl (put35 _ _ _ _ [_]) ?_
      rintro t168 S168 ⟨rfl, A168, c168, rfl⟩
      refine tb 2 rfl ?_
      refine AWH.done (by kernel_rfl) ?_
      refine AW.rseq ?_
      refine AWL.y rfl rfl (B rfl) (Yv.move rfl (E rfl rfl)) ?_
      refine AWL.y rfl rfl (B rfl) (Yv.nilChk rfl (E rfl rfl)) ?_
      refine AWL.y rfl rfl (B rfl) (Yv.fieldBox rfl fo_49_0 (E rfl rfl)) ?_
      refine AWL.y rfl rfl (B rfl) (Yv.loadBox rfl ag_24 (i := 1) rfl (E rfl rfl) rfl) ?_
      refine AWL.y rfl rfl (B rfl) (Yv.assign rfl (E rfl rfl)) ?_
      refine AWL.y rfl rfl (B rfl) (Yv.assign rfl (E rfl rfl)) ?_
      refine AWL.nil ?_
      refine AW.drop (List.take_sublist 1 _) ?_
      refine AW.ret (retI (.tmp rfl (.tmp rfl .nil)) ?_)
      rw [if_pos hval]
      refine enc_end ?_
      rw [enc9 (by rw [h59t]; rfl)]
      rw [← r1]
      try simp only [List.append_assoc]
      rfl
  try replace h59f := of_decide_eq_false h59f
  refine AW.rseq ?_
  refine AWL.y rfl rfl (B rfl) (Yv.eql rfl (E rfl rfl) (E rfl rfl)) ?_
  refine AWL.y rfl rfl (B rfl) (Yv.assign rfl (E rfl rfl)) ?_
  refine AWL.nil ?_
  refine AW.cond rfl (fun h60t => ?_) (fun h60f => ?_)
  ·
   try replace h60t := of_decide_eq_true h60t
   refine AW.regionH (HeldBox b1 (insVals i)) rfl (tells_box (k := 2) rfl) ?_
   refine AWH.tk (i := 0) rfl rfl rfl (B rfl) (heldAll (freeMove rfl (E rfl rfl))) ?_
   refine AWH.tk (i := 1) rfl rfl rfl (B rfl) (heldAll (freeField rfl fo_23_1 (E rfl rfl))) ?_
   refine AWH.tk (i := 2) rfl rfl rfl (B rfl) (heldLoad rfl ag_3 (E rfl rfl) rfl) ?_
   refine AWH.tk (i := 4) rfl rfl rfl (B rfl) (heldAll (freeField rfl fo_23_1 (E rfl rfl))) ?_
   refine AWH.tk (i := 5) rfl rfl rfl (B rfl) (heldLoad rfl ag_3 (E rfl rfl) rfl) ?_
   refine AWH.two (i := 3) (j := 6) (by kernel_rfl) rfl rfl ?_ ?_
   ·
    refine AWL.call rfl rfl (B rfl) rfl ce_27 (E rfl rfl) (evsC (E rfl rfl) (evsC (E rfl rfl) (evsC (E rfl rfl) (evsC (E rfl rfl) evs0)))) (S1 := CB _ _ _ _) (S2 := [_]) rfl (rex34 _ _ _ _ _ _ _) ?_
    rintro t174 S174 ⟨rfl, A174, c174, rfl⟩
    refine tb 2 rfl ?_
    refine AWH.one (i := 6) (by kernel_rfl) rfl ?_
    refine AWL.y rfl rfl (B rfl) (Yv.andN_i64 3 8 (by decide) (by decide) (by decide) rfl (E rfl rfl) (E rfl rfl) (fun hg => ⟨by omega, by omega⟩)) ?_
    refine tb 2 rfl ?_
    refine AWH.one (i := 7) (by kernel_rfl) rfl ?_
    refine AWL.y rfl rfl (B rfl) (Yv.bits rfl rfl (E rfl rfl) (E rfl rfl)) ?_
    refine tb 2 rfl ?_
    refine AWH.one (i := 8) (by kernel_rfl) rfl ?_
    refine AWL.buildSlice1 rfl rfl (B rfl) rfl el_43 rfl (evsC (E rfl rfl) evs0) (Nat.le_of_ble_eq_true rfl) rfl rfl ?_
    refine tb 2 rfl ?_
    refine AWH.one (i := 9) (by kernel_rfl) rfl ?_
    refine AWL.call rfl rfl (B rfl) rfl ce_28 (E rfl rfl) (evsC (E rfl rfl) (evsC (E rfl rfl) evs0)) (S1 := CB _ _ _ _) (S2 := [_]) rfl (put35 _ _ _ _ [_]) ?_
    rintro t180 S180 ⟨rfl, A180, c180, rfl⟩
    refine tb 2 rfl ?_
    refine AWH.done (by kernel_rfl) ?_
    refine AW.rseq ?_
    refine AWL.y rfl rfl (B rfl) (Yv.move rfl (E rfl rfl)) ?_
    refine AWL.y rfl rfl (B rfl) (Yv.nilChk rfl (E rfl rfl)) ?_
    refine AWL.y rfl rfl (B rfl) (Yv.fieldBox rfl fo_49_0 (E rfl rfl)) ?_
    refine AWL.y rfl rfl (B rfl) (Yv.loadBox rfl ag_24 (i := 1) rfl (E rfl rfl) rfl) ?_
    refine AWL.y rfl rfl (B rfl) (Yv.assign rfl (E rfl rfl)) ?_
    refine AWL.y rfl rfl (B rfl) (Yv.assign rfl (E rfl rfl)) ?_
    refine AWL.nil ?_
    refine AW.drop (List.take_sublist 1 _) ?_
    refine AW.ret (retI (.tmp rfl (.tmp rfl .nil)) ?_)
    rw [if_pos hval]
    refine enc_end ?_
    rw [enc10 (by rw [h60t]; rfl)]
    rw [← r2]
    try simp only [List.append_assoc]
    rfl
   ·
    refine AWL.y rfl rfl (B rfl) (Yv.andN_i64 3 8 (by decide) (by decide) (by decide) rfl (E rfl rfl) (E rfl rfl) (fun hg => ⟨by omega, by omega⟩)) ?_
    refine tb 2 rfl ?_
    refine AWH.two (i := 3) (j := 7) (by kernel_rfl) rfl rfl ?_ ?_
    ·
     refine AWL.call rfl rfl (B rfl) rfl ce_27 (E rfl rfl) (evsC (E rfl rfl) (evsC (E rfl rfl) (evsC (E rfl rfl) (evsC (E rfl rfl) evs0)))) (S1 := CB _ _ _ _) (S2 := [_]) rfl (rex34 _ _ _ _ _ _ _) ?_
     rintro t174 S174 ⟨rfl, A174, c174, rfl⟩
     refine tb 2 rfl ?_
     refine AWH.one (i := 7) (by kernel_rfl) rfl ?_
     refine AWL.y rfl rfl (B rfl) (Yv.bits rfl rfl (E rfl rfl) (E rfl rfl)) ?_
     refine tb 2 rfl ?_
     refine AWH.one (i := 8) (by kernel_rfl) rfl ?_
     refine AWL.buildSlice1 rfl rfl (B rfl) rfl el_43 rfl (evsC (E rfl rfl) evs0) (Nat.le_of_ble_eq_true rfl) rfl rfl ?_
     refine tb 2 rfl ?_
     refine AWH.one (i := 9) (by kernel_rfl) rfl ?_
     refine AWL.call rfl rfl (B rfl) rfl ce_28 (E rfl rfl) (evsC (E rfl rfl) (evsC (E rfl rfl) evs0)) (S1 := CB _ _ _ _) (S2 := [_]) rfl (put35 _ _ _ _ [_]) ?_
     rintro t180 S180 ⟨rfl, A180, c180, rfl⟩
     refine tb 2 rfl ?_
     refine AWH.done (by kernel_rfl) ?_
     refine AW.rseq ?_
     refine AWL.y rfl rfl (B rfl) (Yv.move rfl (E rfl rfl)) ?_
     refine AWL.y rfl rfl (B rfl) (Yv.nilChk rfl (E rfl rfl)) ?_
     refine AWL.y rfl rfl (B rfl) (Yv.fieldBox rfl fo_49_0 (E rfl rfl)) ?_
     refine AWL.y rfl rfl (B rfl) (Yv.loadBox rfl ag_24 (i := 1) rfl (E rfl rfl) rfl) ?_
     refine AWL.y rfl rfl (B rfl) (Yv.assign rfl (E rfl rfl)) ?_
     refine AWL.y rfl rfl (B rfl) (Yv.assign rfl (E rfl rfl)) ?_
     refine AWL.nil ?_
     refine AW.drop (List.take_sublist 1 _) ?_
     refine AW.ret (retI (.tmp rfl (.tmp rfl .nil)) ?_)
     rw [if_pos hval]
     refine enc_end ?_
     rw [enc10 (by rw [h60t]; rfl)]
     rw [← r2]
     try simp only [List.append_assoc]
     rfl
    ·
     refine AWL.y rfl rfl (B rfl) (Yv.bits rfl rfl (E rfl rfl) (E rfl rfl)) ?_
     refine tb 2 rfl ?_
     refine AWH.two (i := 3) (j := 8) (by kernel_rfl) rfl rfl ?_ ?_
     ·
      refine AWL.call rfl rfl (B rfl) rfl ce_27 (E rfl rfl) (evsC (E rfl rfl) (evsC (E rfl rfl) (evsC (E rfl rfl) (evsC (E rfl rfl) evs0)))) (S1 := CB _ _ _ _) (S2 := [_]) rfl (rex34 _ _ _ _ _ _ _) ?_
      rintro t174 S174 ⟨rfl, A174, c174, rfl⟩
      refine tb 2 rfl ?_
      refine AWH.one (i := 8) (by kernel_rfl) rfl ?_
      refine AWL.buildSlice1 rfl rfl (B rfl) rfl el_43 rfl (evsC (E rfl rfl) evs0) (Nat.le_of_ble_eq_true rfl) rfl rfl ?_
      refine tb 2 rfl ?_
      refine AWH.one (i := 9) (by kernel_rfl) rfl ?_
      refine AWL.call rfl rfl (B rfl) rfl ce_28 (E rfl rfl) (evsC (E rfl rfl) (evsC (E rfl rfl) evs0)) (S1 := CB _ _ _ _) (S2 := [_]) rfl (put35 _ _ _ _ [_]) ?_
      rintro t180 S180 ⟨rfl, A180, c180, rfl⟩
      refine tb 2 rfl ?_
      refine AWH.done (by kernel_rfl) ?_
      refine AW.rseq ?_
      refine AWL.y rfl rfl (B rfl) (Yv.move rfl (E rfl rfl)) ?_
      refine AWL.y rfl rfl (B rfl) (Yv.nilChk rfl (E rfl rfl)) ?_
      refine AWL.y rfl rfl (B rfl) (Yv.fieldBox rfl fo_49_0 (E rfl rfl)) ?_
      refine AWL.y rfl rfl (B rfl) (Yv.loadBox rfl ag_24 (i := 1) rfl (E rfl rfl) rfl) ?_
      refine AWL.y rfl rfl (B rfl) (Yv.assign rfl (E rfl rfl)) ?_
      refine AWL.y rfl rfl (B rfl) (Yv.assign rfl (E rfl rfl)) ?_
      refine AWL.nil ?_
      refine AW.drop (List.take_sublist 1 _) ?_
      refine AW.ret (retI (.tmp rfl (.tmp rfl .nil)) ?_)
      rw [if_pos hval]
      refine enc_end ?_
      rw [enc10 (by rw [h60t]; rfl)]
      rw [← r2]
      try simp only [List.append_assoc]
      rfl
     ·
      refine AWL.buildSlice1 rfl rfl (B rfl) rfl el_43 rfl (evsC (E rfl rfl) evs0) (Nat.le_of_ble_eq_true rfl) rfl rfl ?_
      refine tb 2 rfl ?_
      refine AWH.one (i := 3) (by kernel_rfl) rfl ?_
      refine AWL.call rfl rfl (B rfl) rfl ce_27 (E rfl rfl) (evsC (E rfl rfl) (evsC (E rfl rfl) (evsC (E rfl rfl) (evsC (E rfl rfl) evs0)))) (S1 := CB _ _ _ _) (S2 := [_]) rfl (rex34 _ _ _ _ _ _ _) ?_
      rintro t174 S174 ⟨rfl, A174, c174, rfl⟩
      refine tb 2 rfl ?_
      refine AWH.one (i := 9) (by kernel_rfl) rfl ?_
      refine AWL.call rfl rfl (B rfl) rfl ce_28 (E rfl rfl) (evsC (E rfl rfl) (evsC (E rfl rfl) evs0)) (S1 := CB _ _ _ _) (S2 := [_]) rfl (put35 _ _ _ _ [_]) ?_
      rintro t180 S180 ⟨rfl, A180, c180, rfl⟩
      refine tb 2 rfl ?_
      refine AWH.done (by kernel_rfl) ?_
      refine AW.rseq ?_
      refine AWL.y rfl rfl (B rfl) (Yv.move rfl (E rfl rfl)) ?_
      refine AWL.y rfl rfl (B rfl) (Yv.nilChk rfl (E rfl rfl)) ?_
      refine AWL.y rfl rfl (B rfl) (Yv.fieldBox rfl fo_49_0 (E rfl rfl)) ?_
      refine AWL.y rfl rfl (B rfl) (Yv.loadBox rfl ag_24 (i := 1) rfl (E rfl rfl) rfl) ?_
      refine AWL.y rfl rfl (B rfl) (Yv.assign rfl (E rfl rfl)) ?_
      refine AWL.y rfl rfl (B rfl) (Yv.assign rfl (E rfl rfl)) ?_
      refine AWL.nil ?_
      refine AW.drop (List.take_sublist 1 _) ?_
      refine AW.ret (retI (.tmp rfl (.tmp rfl .nil)) ?_)
      rw [if_pos hval]
      refine enc_end ?_
      rw [enc10 (by rw [h60t]; rfl)]
      rw [← r2]
      try simp only [List.append_assoc]
      rfl
  try replace h60f := of_decide_eq_false h60f
  refine AW.rseq ?_
  refine AWL.y rfl rfl (B rfl) (Yv.eql rfl (E rfl rfl) (E rfl rfl)) ?_
  refine AWL.y rfl rfl (B rfl) (Yv.assign rfl (E rfl rfl)) ?_
  refine AWL.nil ?_
  refine AW.cond rfl (fun h61t => ?_) (fun h61f => ?_)
  ·
   try replace h61t := of_decide_eq_true h61t
   refine AW.region ?_
   refine AWL.y rfl rfl (B rfl) (Yv.move rfl (E rfl rfl)) ?_
   refine AWL.buildSlice1 rfl rfl (B rfl) rfl el_43 rfl (evsC (E rfl rfl) evs0) (Nat.le_of_ble_eq_true rfl) rfl rfl ?_
   refine AWL.call rfl rfl (B rfl) rfl ce_28 (E rfl rfl) (evsC (E rfl rfl) (evsC (E rfl rfl) evs0)) (S1 := CB _ _ _ _) (S2 := [_]) rfl (put35 _ _ _ _ [_]) ?_
   rintro t185 S185 ⟨rfl, A185, c185, rfl⟩
   refine AWL.nil ?_
   refine AW.rseq ?_
   refine AWL.y rfl rfl (B rfl) (Yv.move rfl (E rfl rfl)) ?_
   refine AWL.y rfl rfl (B rfl) (Yv.nilChk rfl (E rfl rfl)) ?_
   refine AWL.y rfl rfl (B rfl) (Yv.fieldBox rfl fo_49_0 (E rfl rfl)) ?_
   refine AWL.y rfl rfl (B rfl) (Yv.loadBox rfl ag_24 (i := 1) rfl (E rfl rfl) rfl) ?_
   refine AWL.y rfl rfl (B rfl) (Yv.assign rfl (E rfl rfl)) ?_
   refine AWL.y rfl rfl (B rfl) (Yv.assign rfl (E rfl rfl)) ?_
   refine AWL.nil ?_
   refine AW.drop (List.take_sublist 1 _) ?_
   refine AW.ret (retI (.tmp rfl (.tmp rfl .nil)) ?_)
   rw [if_pos hval]
   refine enc_end ?_
   rw [enc11 (by rw [h61t]; rfl)]
   skip
   try simp only [List.append_assoc]
   rfl
  try replace h61f := of_decide_eq_false h61f
  refine AW.rseq ?_
  refine AWL.y rfl rfl (B rfl) (Yv.eql rfl (E rfl rfl) (E rfl rfl)) ?_
  refine AWL.y rfl rfl (B rfl) (Yv.assign rfl (E rfl rfl)) ?_
  refine AWL.nil ?_
  refine AW.cond rfl (fun h62t => ?_) (fun h62f => ?_)
  ·
   try replace h62t := of_decide_eq_true h62t
   refine AW.region ?_
   refine AWL.y rfl rfl (B rfl) (Yv.move rfl (E rfl rfl)) ?_
   refine AWL.buildSlice1 rfl rfl (B rfl) rfl el_43 rfl (evsC (E rfl rfl) (evsC (E rfl rfl) evs0)) (Nat.le_of_ble_eq_true rfl) rfl rfl ?_
   refine AWL.call rfl rfl (B rfl) rfl ce_28 (E rfl rfl) (evsC (E rfl rfl) (evsC (E rfl rfl) evs0)) (S1 := CB _ _ _ _) (S2 := [_]) rfl (put35 _ _ _ _ [_, _]) ?_
   rintro t190 S190 ⟨rfl, A190, c190, rfl⟩
   refine AWL.nil ?_
   refine AW.rseq ?_
   refine AWL.y rfl rfl (B rfl) (Yv.move rfl (E rfl rfl)) ?_
   refine AWL.y rfl rfl (B rfl) (Yv.nilChk rfl (E rfl rfl)) ?_
   refine AWL.y rfl rfl (B rfl) (Yv.fieldBox rfl fo_49_0 (E rfl rfl)) ?_
   refine AWL.y rfl rfl (B rfl) (Yv.loadBox rfl ag_24 (i := 1) rfl (E rfl rfl) rfl) ?_
   refine AWL.y rfl rfl (B rfl) (Yv.assign rfl (E rfl rfl)) ?_
   refine AWL.y rfl rfl (B rfl) (Yv.assign rfl (E rfl rfl)) ?_
   refine AWL.nil ?_
   refine AW.drop (List.take_sublist 1 _) ?_
   refine AW.ret (retI (.tmp rfl (.tmp rfl .nil)) ?_)
   rw [if_pos hval]
   refine enc_end ?_
   rw [enc12 (by rw [h62t]; rfl)]
   skip
   try simp only [List.append_assoc]
   rfl
  try replace h62f := of_decide_eq_false h62f
  refine AW.rseq ?_
  refine AWL.y rfl rfl (B rfl) (Yv.eql rfl (E rfl rfl) (E rfl rfl)) ?_
  refine AWL.y rfl rfl (B rfl) (Yv.assign rfl (E rfl rfl)) ?_
  refine AWL.nil ?_
  refine AW.cond rfl (fun h63t => ?_) (fun h63f => ?_)
  ·
   try replace h63t := of_decide_eq_true h63t
   refine AW.region ?_
   refine AWL.y rfl rfl (B rfl) (Yv.move rfl (E rfl rfl)) ?_
   refine AWL.buildSlice1 rfl rfl (B rfl) rfl el_43 rfl (evsC (E rfl rfl) (evsC (E rfl rfl) evs0)) (Nat.le_of_ble_eq_true rfl) rfl rfl ?_
   refine AWL.call rfl rfl (B rfl) rfl ce_28 (E rfl rfl) (evsC (E rfl rfl) (evsC (E rfl rfl) evs0)) (S1 := CB _ _ _ _) (S2 := [_]) rfl (put35 _ _ _ _ [_, _]) ?_
   rintro t195 S195 ⟨rfl, A195, c195, rfl⟩
   refine AWL.nil ?_
   refine AW.rseq ?_
   refine AWL.y rfl rfl (B rfl) (Yv.move rfl (E rfl rfl)) ?_
   refine AWL.y rfl rfl (B rfl) (Yv.nilChk rfl (E rfl rfl)) ?_
   refine AWL.y rfl rfl (B rfl) (Yv.fieldBox rfl fo_49_0 (E rfl rfl)) ?_
   refine AWL.y rfl rfl (B rfl) (Yv.loadBox rfl ag_24 (i := 1) rfl (E rfl rfl) rfl) ?_
   refine AWL.y rfl rfl (B rfl) (Yv.assign rfl (E rfl rfl)) ?_
   refine AWL.y rfl rfl (B rfl) (Yv.assign rfl (E rfl rfl)) ?_
   refine AWL.nil ?_
   refine AW.drop (List.take_sublist 1 _) ?_
   refine AW.ret (retI (.tmp rfl (.tmp rfl .nil)) ?_)
   rw [if_pos hval]
   refine enc_end ?_
   rw [enc13 (by rw [h63t]; rfl)]
   skip
   try simp only [List.append_assoc]
   rfl
  try replace h63f := of_decide_eq_false h63f
  refine AW.seq ?_
  refine AW.rseq ?_
  refine AWL.y rfl rfl (B rfl) (Yv.eql rfl (E rfl rfl) (E rfl rfl)) ?_
  refine AWL.y rfl rfl (B rfl) (Yv.assign rfl (E rfl rfl)) ?_
  refine AWL.nil ?_
  refine AW.cond rfl (fun h64t => ?_) (fun h64f => ?_)
  ·
   try replace h64t := of_decide_eq_true h64t
   refine AW.skip ?_
   refine AW.cond rfl (fun h65t => ?_) (fun h65f => ?_)
   ·
    try replace h65t := of_decide_eq_true h65t
    refine AW.region ?_
    refine AWL.y rfl rfl (B rfl) (Yv.move rfl (E rfl rfl)) ?_
    refine AWL.y rfl rfl (B rfl) (Yv.loadBoxA rfl ag_23 (i := 2) rfl (E rfl rfl) rfl rfl) ?_
    refine AWL.call rfl rfl (B rfl) rfl ce_33 (E rfl rfl) (evsC (E rfl rfl) (evsC (E rfl rfl) evs0)) (S1 := CB _ _ _ _) (S2 := [_]) rfl (jump40 b11 _ _ _ i hd hs hc (by simp)) ?_
    rintro t202 S202 ⟨A202, c202, e202, rfl⟩
    refine AWL.nil ?_
    refine AW.rseq ?_
    refine AWL.y rfl rfl (B rfl) (Yv.move rfl (E rfl rfl)) ?_
    refine AWL.y rfl rfl (B rfl) (Yv.nilChk rfl (E rfl rfl)) ?_
    refine AWL.y rfl rfl (B rfl) (Yv.fieldBox rfl fo_49_0 (E rfl rfl)) ?_
    refine AWL.y rfl rfl (B rfl) (Yv.loadBox rfl ag_24 (i := 1) rfl (E rfl rfl) rfl) ?_
    refine AWL.y rfl rfl (B rfl) (Yv.assign rfl (E rfl rfl)) ?_
    refine AWL.y rfl rfl (B rfl) (Yv.assign rfl (E rfl rfl)) ?_
    refine AWL.nil ?_
    refine AW.drop (List.take_sublist 1 _) ?_
    refine AW.ret (retI (.tmp rfl (.tmp rfl .nil)) ?_)
    rw [if_pos hval]
    refine enc_end ?_
    rw [enc7 (by rw [h64t]; rfl)]
    skip
    try simp only [List.append_assoc]
    rfl
   · exfalso; replace h65f := of_decide_eq_false h65f; omega
  try replace h64f := of_decide_eq_false h64f
  refine AW.rseq ?_
  refine AWL.y rfl rfl (B rfl) (Yv.eql rfl (E rfl rfl) (E rfl rfl)) ?_
  refine AWL.y rfl rfl (B rfl) (Yv.assign rfl (E rfl rfl)) ?_
  refine AWL.nil ?_
  refine AW.cond rfl (fun h66t => ?_) (fun h66f => ?_)
  ·
   try replace h66t := of_decide_eq_true h66t
   refine AW.skip ?_
   refine AW.cond rfl (fun h67t => ?_) (fun h67f => ?_)
   ·
    try replace h67t := of_decide_eq_true h67t
    refine AW.region ?_
    refine AWL.y rfl rfl (B rfl) (Yv.move rfl (E rfl rfl)) ?_
    refine AWL.y rfl rfl (B rfl) (Yv.loadBoxA rfl ag_23 (i := 2) rfl (E rfl rfl) rfl rfl) ?_
    refine AWL.call rfl rfl (B rfl) rfl ce_33 (E rfl rfl) (evsC (E rfl rfl) (evsC (E rfl rfl) evs0)) (S1 := CB _ _ _ _) (S2 := [_]) rfl (jump40 b11 _ _ _ i hd hs hc (by simp)) ?_
    rintro t202 S202 ⟨A202, c202, e202, rfl⟩
    refine AWL.nil ?_
    refine AW.rseq ?_
    refine AWL.y rfl rfl (B rfl) (Yv.move rfl (E rfl rfl)) ?_
    refine AWL.y rfl rfl (B rfl) (Yv.nilChk rfl (E rfl rfl)) ?_
    refine AWL.y rfl rfl (B rfl) (Yv.fieldBox rfl fo_49_0 (E rfl rfl)) ?_
    refine AWL.y rfl rfl (B rfl) (Yv.loadBox rfl ag_24 (i := 1) rfl (E rfl rfl) rfl) ?_
    refine AWL.y rfl rfl (B rfl) (Yv.assign rfl (E rfl rfl)) ?_
    refine AWL.y rfl rfl (B rfl) (Yv.assign rfl (E rfl rfl)) ?_
    refine AWL.nil ?_
    refine AW.drop (List.take_sublist 1 _) ?_
    refine AW.ret (retI (.tmp rfl (.tmp rfl .nil)) ?_)
    rw [if_pos hval]
    refine enc_end ?_
    rw [enc7 (by rw [h66t]; rfl)]
    skip
    try simp only [List.append_assoc]
    rfl
   · exfalso; replace h67f := of_decide_eq_false h67f; omega
  try replace h66f := of_decide_eq_false h66f
  refine AW.region ?_
  refine AWL.y rfl rfl (B rfl) (Yv.eql rfl (E rfl rfl) (E rfl rfl)) ?_
  refine AWL.y rfl rfl (B rfl) (Yv.assign rfl (E rfl rfl)) ?_
  refine AWL.nil ?_
  refine AW.cond rfl (fun h68t => ?_) (fun h68f => ?_)
  ·
   try replace h68t := of_decide_eq_true h68t
   refine AW.region ?_
   refine AWL.y rfl rfl (B rfl) (Yv.move rfl (E rfl rfl)) ?_
   refine AWL.y rfl rfl (B rfl) (Yv.loadBoxA rfl ag_23 (i := 2) rfl (E rfl rfl) rfl rfl) ?_
   refine AWL.call rfl rfl (B rfl) rfl ce_33 (E rfl rfl) (evsC (E rfl rfl) (evsC (E rfl rfl) evs0)) (S1 := CB _ _ _ _) (S2 := [_]) rfl (jump40 b11 _ _ _ i hd hs hc (by simp)) ?_
   rintro t202 S202 ⟨A202, c202, e202, rfl⟩
   refine AWL.nil ?_
   refine AW.rseq ?_
   refine AWL.y rfl rfl (B rfl) (Yv.move rfl (E rfl rfl)) ?_
   refine AWL.y rfl rfl (B rfl) (Yv.nilChk rfl (E rfl rfl)) ?_
   refine AWL.y rfl rfl (B rfl) (Yv.fieldBox rfl fo_49_0 (E rfl rfl)) ?_
   refine AWL.y rfl rfl (B rfl) (Yv.loadBox rfl ag_24 (i := 1) rfl (E rfl rfl) rfl) ?_
   refine AWL.y rfl rfl (B rfl) (Yv.assign rfl (E rfl rfl)) ?_
   refine AWL.y rfl rfl (B rfl) (Yv.assign rfl (E rfl rfl)) ?_
   refine AWL.nil ?_
   refine AW.drop (List.take_sublist 1 _) ?_
   refine AW.ret (retI (.tmp rfl (.tmp rfl .nil)) ?_)
   rw [if_pos hval]
   refine enc_end ?_
   rw [enc7 (by rw [h68t]; rfl)]
   skip
   try simp only [List.append_assoc]
   rfl
  try replace h68f := of_decide_eq_false h68f
  refine AW.region ?_
  refine AWL.y rfl rfl (B rfl) (Yv.move rfl (E rfl rfl)) ?_
  refine AWL.y rfl rfl (B rfl) (Yv.loadBoxA rfl ag_23 (i := 2) rfl (E rfl rfl) rfl rfl) ?_
  refine AWL.call rfl rfl (B rfl) rfl ce_34 (E rfl rfl) (evsC (E rfl rfl) (evsC (E rfl rfl) evs0)) (S1 := CB _ _ _ _) (S2 := [_]) rfl (far41 b11 _ _ _ i hd hs hc (by simp) (by omega)) ?_
  rintro t22 S22 ⟨A22, c22, e22, rfl⟩
  refine AWL.nil ?_
  refine AW.rseq ?_
  refine AWL.y rfl rfl (B rfl) (Yv.move rfl (E rfl rfl)) ?_
  refine AWL.y rfl rfl (B rfl) (Yv.nilChk rfl (E rfl rfl)) ?_
  refine AWL.y rfl rfl (B rfl) (Yv.fieldBox rfl fo_49_0 (E rfl rfl)) ?_
  refine AWL.y rfl rfl (B rfl) (Yv.loadBox rfl ag_24 (i := 1) rfl (E rfl rfl) rfl) ?_
  refine AWL.y rfl rfl (B rfl) (Yv.assign rfl (E rfl rfl)) ?_
  refine AWL.y rfl rfl (B rfl) (Yv.assign rfl (E rfl rfl)) ?_
  refine AWL.nil ?_
  refine AW.drop (List.take_sublist 1 _) ?_
  refine AW.ret (retI (.tmp rfl (.tmp rfl .nil)) ?_)
  rw [if_pos hval]
  refine enc_end ?_
  rw [cls_far (by omega)]
  skip
  try simp only [List.append_assoc]
  rfl

theorem encode19 (i : Ins) : ACalls Tryd.prog 11 [insT i] [] (fun t_ S => t_ = if validF i = true then .tup [u8s (encF i), .v (.int .i64 0)] else .tup [ofConst (.slice none 0 0), .v (.int .i64 200)]) := by
  intro X w args h1 h2 h3 h4 h5
  refine (encode19R i X w args h1 h2 h3 h4 h5).mono ?_
  rintro e w' ⟨v, t, S', rfl, hk, hnd, hfr, hent, hv, hR⟩
  by_cases hval : validF i = true
  · rw [if_pos hval] at hR
    obtain ⟨A, r, rfl, rfl⟩ := hR
    refine ⟨v, .tup [u8s (encF i), .v (.int .i64 0)], [], rfl, hk, by simp [M], fun b hb => (by simp [M] at hb), fun e he => (by cases he), ?_, by rw [if_pos hval]⟩
    have hL : ∀ g, A.map (·.block) = some g → g ∉ X ++ M [] := fun g hg hm => by
      have hm1 : g ∈ M [Ent.row A ((encF i).length + r.length) ((encF i).length + r.length) 5 1 ((encF i ++ r).map u8)] := mem_M.2 ⟨_, List.mem_singleton.2 rfl, hg⟩
      rcases hfr g hm1 with h | h
      · simp [M] at h
      · rcases List.mem_append.1 hm with hx | hx
        · have := (h1 g hx).1
          omega
        · simp [M] at hx
    have hT := full_tree (L' := X ++ M []) (hent _ (List.mem_singleton.2 rfl)) hL
    cases hv with
    | @tup _ ys hl h =>
      match ys, hl, h with
      | [p, q], _, h =>
        have e1 := (h 0 _ p rfl rfl).v_inv
        have e2 := (h 1 _ q rfl rfl).v_inv
        subst e1; subst e2
        refine .tup (ys := [_, _]) rfl (fun j t u f1 f2 => ?_)
        rcases j with _ | _ | j
        · simp only [List.getElem?_cons_zero, Option.some.injEq] at f1 f2
          subst f1; subst f2
          exact hT
        · simp only [List.getElem?_cons_succ, List.getElem?_cons_zero, Option.some.injEq] at f1 f2
          subst f1; subst f2
          exact .v _
        · simp at f1
  · rw [if_neg hval] at hR
    subst hR
    refine ⟨v, _, [], rfl, hk, by simp [M], fun b hb => (by simp [M] at hb), fun e he => (by cases he), hv.mono (Nat.le_refl _) (fun _ _ _ => rfl) (fun b _ hm => ?_), by rw [if_neg hval]⟩
    rcases List.mem_append.1 hm with hx | hx
    · exact List.mem_append.2 (.inl hx)
    · simp [M] at hx

end Go.Proofs.YtjndpakhmgapjaaDoor

namespace Go.Proofs.YtjndpakhmgapjaaDoor
open Go Go.RowKit
set_option linter.unusedSimpArgs false
set_option linter.unusedVariables false
set_option linter.unnecessarySimpa false
structure Rd where
  at_ : Nat
  cut : Bool
  wrong : Bool
  deriving DecidableEq
structure Rx where
  wide : Int
  reg : Int
  rm : Int
  deriving DecidableEq
def rdCells (bs : List UInt8) (r : Rd) : List T := [u8s bs, .v (.int .i64 (r.at_ : Int)), .v (.bool r.cut), .v (.bool r.wrong)]
def rxVals (x : Rx) : List Value := [.int .i64 x.wide, .int .i64 x.reg, .int .i64 x.rm]
def rxCells (x : Rx) : List T := [.v (.int .i64 x.wide), .v (.int .i64 x.reg), .v (.int .i64 x.rm)]
def rxT (x : Rx) : T := .agg (rxCells x)
def nilI : Ins := ⟨0, 0, 0, 0, 0, 0⟩
def byteAt (bs : List UInt8) (k : Nat) : Int := ((bs.getD k 0).toNat : Int)
def nextF (bs : List UInt8) (r : Rd) : Int × Rd :=
  if (r.cut || r.wrong) = true then (0, r) else if r.at_ = bs.length then (0, ⟨r.at_, true, r.wrong⟩) else (byteAt bs r.at_, ⟨r.at_ + 1, r.cut, r.wrong⟩)
def mustF (r : Rd) (is : Bool) : Rd := if (!r.cut && !is) = true then ⟨r.at_, r.cut, true⟩ else r
abbrev orI (a b : Int) : Int := bitsOf .or .i64 a b
abbrev andI (a b : Int) : Int := bitsOf .and .i64 a b
def splitF (x : Int) : Rx := ⟨x / 8 % 2, x / 4 % 2 * 8, x % 2 * 8⟩
/-- So many bytes, the lowest first, as one number. -/
def immS (bs : List UInt8) (r : Rd) : Nat → Int × Rd
  | 0 => (0, r)
  | k + 1 => ((immS bs r k).1 + (nextF bs (immS bs r k).2).1 * 256 ^ k, (nextF bs (immS bs r k).2).2)
def sgn (k : Nat) (n : Int) : Int := if 2 * n < 256 ^ k then n else n - 256 ^ k
def immV (bs : List UInt8) (r : Rd) (k : Nat) : Int := sgn k (immS bs r k).1
def immD (bs : List UInt8) (r : Rd) (k : Nat) : Rd := (immS bs r k).2
def twoV (bs : List UInt8) (x : Rx) (r : Rd) : Int × Int := (orI x.reg ((nextF bs r).1 / 8 % 8), orI x.rm ((nextF bs r).1 % 8))
def twoD (bs : List UInt8) (r : Rd) : Rd := mustF (nextF bs r).2 (decide ((nextF bs r).1 / 64 = 3))
def oneV (bs : List UInt8) (x : Rx) (r : Rd) : Int × Int := twoV bs x (mustF r (decide (x.reg = 0)))
def oneD (bs : List UInt8) (x : Rx) (r : Rd) : Rd := twoD bs (mustF r (decide (x.reg = 0)))
def memD1 (bs : List UInt8) (r : Rd) : Rd := mustF (nextF bs r).2 (decide ((nextF bs r).1 / 64 = 2))
def memD2 (bs : List UInt8) (r : Rd) : Rd := if (nextF bs r).1 % 8 = 4 then mustF (nextF bs (memD1 bs r)).2 (decide ((nextF bs (memD1 bs r)).1 = 36)) else memD1 bs r
def memV (bs : List UInt8) (x : Rx) (r : Rd) : Int × Int × Int := (orI x.reg ((nextF bs r).1 / 8 % 8), orI x.rm ((nextF bs r).1 % 8), immV bs (memD2 bs r) 4)
def memD (bs : List UInt8) (r : Rd) : Rd := immD bs (memD2 bs r) 4
def peekF (bs : List UInt8) (r : Rd) : Bool := decide ((r.at_ : Int) < (bs.length : Int)) && decide (byteAt bs r.at_ / 64 = 2)
def movedR (bs : List UInt8) (x : Rx) (r : Rd) : Ins × Rd :=
  if peekF bs r = true then (⟨4, (memV bs x r).2.1, (memV bs x r).1, 0, 8, (memV bs x r).2.2⟩, memD bs r) else (⟨1, (twoV bs x r).2, (twoV bs x r).1, 0, 0, 0⟩, twoD bs r)
def kindsN : List Int := [15, 16, 17, 18, 19, 20, 22, 23, 24, 25, 26, 27, 28, 29, 30, 31]
def stepN (op n a k : Int) : Int := if (decide ((opF k).1 = op) && decide ((opF k).2 = n)) = true then k else a
def kindN (op n : Int) (j : Nat) : Int := (kindsN.take j).foldl (stepN op n) 0
def numD1 (bs : List UInt8) (x : Rx) (op : Int) (r : Rd) : Rd := mustF (oneD bs x r) (decide (0 < kindN op (oneV bs x r).1 16))
def numberedR (bs : List UInt8) (x : Rx) (op : Int) (r : Rd) : Ins × Rd :=
  if op = 129 then (⟨kindN op (oneV bs x r).1 16, (oneV bs x r).2, 0, 0, 0, immV bs (numD1 bs x op r) 4⟩, immD bs (numD1 bs x op r) 4)
  else if op = 193 then (⟨kindN op (oneV bs x r).1 16, (oneV bs x r).2, 0, 0, 0, immV bs (numD1 bs x op r) 1⟩, mustF (immD bs (numD1 bs x op r) 1) (decide (0 ≤ immV bs (numD1 bs x op r) 1) && decide (immV bs (numD1 bs x op r) 1 ≤ 63)))
  else (⟨kindN op (oneV bs x r).1 16, (oneV bs x r).2, 0, 0, 0, 0⟩, numD1 bs x op r)
def narrowR (bs : List UInt8) (x : Rx) (op : Int) (r : Rd) : Ins × Rd :=
  if op = 139 then (⟨3, (memV bs x r).1, (memV bs x r).2.1, 0, 4, (memV bs x r).2.2⟩, memD bs r)
  else if op = 137 then (⟨4, (memV bs x r).2.1, (memV bs x r).1, 0, 4, (memV bs x r).2.2⟩, memD bs r)
  else if op = 136 then (⟨4, (memV bs x r).2.1, (memV bs x r).1, 0, 1, (memV bs x r).2.2⟩, memD bs r)
  else if op = 255 then (⟨if (oneV bs x r).1 = 2 then 38 else 39, (oneV bs x r).2, 0, 0, 0, 0⟩, mustF (oneD bs x r) (decide ((oneV bs x r).1 = 2) || decide ((oneV bs x r).1 = 4)))
  else if andI op 248 = 80 then (⟨41, orI x.rm (op % 8), 0, 0, 0, 0⟩, mustF r (decide (x.reg = 0)))
  else if andI op 248 = 88 then (⟨42, orI x.rm (op % 8), 0, 0, 0, 0⟩, mustF r (decide (x.reg = 0)))
  else (nilI, mustF r false)
def farD1 (x : Rx) (r : Rd) : Rd := mustF r (decide (x.wide = 1) || decide (x.reg = 0))
def farIn (bs : List UInt8) (x : Rx) (op : Int) (r : Rd) : Ins × Rd :=
  if (decide (x.wide = 0) && decide (andI op 240 = 144)) = true then (⟨32, (oneV bs x r).2, 0, op % 16, 0, 0⟩, mustF (oneD bs x r) (decide ((oneV bs x r).1 = 0)))
  else if (decide (x.wide = 1) && decide (andI op 240 = 64)) = true then (⟨34, (twoV bs x r).1, (twoV bs x r).2, op % 16, 0, 0⟩, twoD bs r)
  else if (decide (x.wide = 1) && decide (op = 175)) = true then (⟨21, (twoV bs x r).1, (twoV bs x r).2, 0, 0, 0⟩, twoD bs r)
  else if (decide (x.wide = 1) && decide (op = 182)) = true then
    if peekF bs r = true then (⟨3, (memV bs x r).1, (memV bs x r).2.1, 0, 1, (memV bs x r).2.2⟩, memD bs r) else (⟨33, (twoV bs x r).1, (twoV bs x r).2, 0, 0, 0⟩, twoD bs r)
  else (nilI, mustF r false)
def farR (bs : List UInt8) (x : Rx) (r : Rd) : Ins × Rd :=
  if ((nextF bs (farD1 x r)).2.cut || (nextF bs (farD1 x r)).2.wrong) = true then (nilI, (nextF bs (farD1 x r)).2) else farIn bs x (nextF bs (farD1 x r)).1 (nextF bs (farD1 x r)).2
def realK (first : Int) (x : Rx) (op : Int) : Int :=
  if (decide (first = 102) && decide (x.wide = 1) && decide (op = 110)) = true then 45
  else if (decide (first = 102) && decide (x.wide = 0) && decide (op = 46)) = true then 51
  else if (decide (first = 242) && decide (x.wide = 1) && decide (op = 42)) = true then 52
  else if (decide (first = 242) && decide (x.wide = 0) && decide (op = 88)) = true then 47
  else if (decide (first = 242) && decide (x.wide = 0) && decide (op = 89)) = true then 48
  else if (decide (first = 242) && decide (x.wide = 0) && decide (op = 92)) = true then 49
  else if (decide (first = 242) && decide (x.wide = 0) && decide (op = 94)) = true then 50
  else 0
def realIn (bs : List UInt8) (first : Int) (x : Rx) (op : Int) (r : Rd) : Ins × Rd :=
  if (decide (first = 102) && decide (x.wide = 1) && decide (op = 126)) = true then (⟨46, (twoV bs x r).2, (twoV bs x r).1, 0, 0, 0⟩, twoD bs r)
  else (⟨realK first x op, (twoV bs x (mustF r (decide (0 < realK first x op)))).1, (twoV bs x (mustF r (decide (0 < realK first x op)))).2, 0, 0, 0⟩, twoD bs (mustF r (decide (0 < realK first x op))))
def realD1 (bs : List UInt8) (r : Rd) : Rd := mustF (nextF bs r).2 (decide (andI (nextF bs r).1 242 = 64))
def realD2 (bs : List UInt8) (r : Rd) : Rd := mustF (nextF bs (realD1 bs r)).2 (decide ((nextF bs (realD1 bs r)).1 = 15))
def realR (bs : List UInt8) (first : Int) (r : Rd) : Ins × Rd :=
  if (nextF bs r).2.cut = true then (nilI, (nextF bs r).2)
  else if ((nextF bs (realD2 bs r)).2.cut || (nextF bs (realD2 bs r)).2.wrong) = true then (nilI, (nextF bs (realD2 bs r)).2)
  else realIn bs first (splitF (nextF bs r).1) (nextF bs (realD2 bs r)).1 (nextF bs (realD2 bs r)).2
def kindsP : List Int := [6, 7, 8, 9, 10, 11, 12, 13, 14]
def kindP (op : Int) : Option Int := kindsP.find? (fun k => decide ((opF k).1 = op))
def prefIn (bs : List UInt8) (x : Rx) (op : Int) (r : Rd) : Ins × Rd :=
  if op = 15 then farR bs x r
  else if x.wide = 0 then narrowR bs x op r
  else if andI op 248 = 184 then (⟨2, orI x.rm (op % 8), 0, 0, 0, immV bs (mustF r (decide (x.reg = 0))) 8⟩, mustF (immD bs (mustF r (decide (x.reg = 0))) 8) (!smallF (immV bs (mustF r (decide (x.reg = 0))) 8)))
  else if op = 139 then (⟨3, (memV bs x r).1, (memV bs x r).2.1, 0, 8, (memV bs x r).2.2⟩, memD bs r)
  else if op = 141 then (⟨5, (memV bs x r).1, (memV bs x r).2.1, 0, 0, (memV bs x r).2.2⟩, memD bs r)
  else if op = 137 then movedR bs x r
  else if op = 199 then (⟨2, (oneV bs x r).2, 0, 0, 0, immV bs (mustF (oneD bs x r) (decide ((oneV bs x r).1 = 0))) 4⟩, immD bs (mustF (oneD bs x r) (decide ((oneV bs x r).1 = 0))) 4)
  else if op = 129 ∨ op = 247 ∨ op = 211 ∨ op = 193 then numberedR bs x op r
  else match kindP op with
    | some k => (⟨k, (twoV bs x r).2, (twoV bs x r).1, 0, 0, 0⟩, twoD bs r)
    | none => (nilI, mustF r false)
def prefR (bs : List UInt8) (x : Rx) (r : Rd) : Ins × Rd :=
  if ((nextF bs r).2.cut || (nextF bs r).2.wrong) = true then (nilI, (nextF bs r).2) else prefIn bs x (nextF bs r).1 (nextF bs r).2
def insTwo (bs : List UInt8) (r : Rd) : Ins × Rd :=
  if (nextF bs r).1 = 5 then (⟨43, 0, 0, 0, 0, 0⟩, (nextF bs r).2)
  else if (nextF bs r).1 = 11 then (⟨44, 0, 0, 0, 0, 0⟩, (nextF bs r).2)
  else if andI (nextF bs r).1 240 = 128 then (⟨36, 0, 0, (nextF bs r).1 % 16, 4, immV bs (nextF bs r).2 4⟩, immD bs (nextF bs r).2 4)
  else (nilI, mustF (nextF bs r).2 false)
def insIn (bs : List UInt8) (x : Int) (r : Rd) : Ins × Rd :=
  if andI x 240 = 64 then prefR bs (splitF x) (mustF r (decide (andI x 2 = 0)))
  else if (decide (x = 102) || decide (x = 242)) = true then realR bs x r
  else if andI x 240 = 112 then (⟨36, 0, 0, x % 16, 1, immV bs r 1⟩, immD bs r 1)
  else if x = 235 then (⟨35, 0, 0, 0, 1, immV bs r 1⟩, immD bs r 1)
  else if x = 233 then (⟨35, 0, 0, 0, 4, immV bs r 4⟩, immD bs r 4)
  else if x = 232 then (⟨37, 0, 0, 0, 0, immV bs r 4⟩, immD bs r 4)
  else if x = 195 then (⟨40, 0, 0, 0, 0, 0⟩, r)
  else if x = 15 then insTwo bs r
  else (nilI, mustF r false)
def insR (bs : List UInt8) (r : Rd) : Ins × Rd :=
  if (nextF bs r).2.cut = true then (nilI, (nextF bs r).2) else insIn bs (nextF bs r).1 (nextF bs r).2
def rd0 : Rd := ⟨0, false, false⟩
def decI (bs : List UInt8) : Ins := if (insR bs rd0).2.wrong = true ∨ (insR bs rd0).2.cut = true then nilI else (insR bs rd0).1
def decN (bs : List UInt8) : Nat := if (insR bs rd0).2.wrong = true ∨ (insR bs rd0).2.cut = true then 0 else (insR bs rd0).2.at_
def decE (bs : List UInt8) : Int := if (insR bs rd0).2.wrong = true then 201 else if (insR bs rd0).2.cut = true then 202 else 0

section
variable {cx : Cx} {env : Env} {ops : Array Oper} {l : List Oper} {K : Env → St → Prop} {x : Ent} {E R : St}
/-- What a call has left behind its first entry goes behind what stood there. -/
theorem AWL.tuck (h : AWL cx ops l K env ((x :: R) ++ E)) : AWL cx ops l K env ((x :: E) ++ R) := by
  refine AWL.perm (S' := (x :: R) ++ E) ?_ h
  exact List.Perm.cons x List.perm_append_comm
end
/-! ### ranges -/
theorem byteAt_range (bs : List UInt8) (k : Nat) : 0 ≤ byteAt bs k ∧ byteAt bs k ≤ 255 := u8_toNat _
theorem next_range (bs : List UInt8) (r : Rd) : 0 ≤ (nextF bs r).1 ∧ (nextF bs r).1 ≤ 255 := by
  unfold nextF
  split
  · exact ⟨Int.le_refl 0, show (0 : Int) ≤ 255 by decide⟩
  · split
    · exact ⟨Int.le_refl 0, show (0 : Int) ≤ 255 by decide⟩
    · exact byteAt_range bs _
def RdOk (bs : List UInt8) (r : Rd) : Prop := r.at_ ≤ bs.length
theorem next_ok {bs : List UInt8} {r : Rd} (h : RdOk bs r) : RdOk bs (nextF bs r).2 := by
  unfold nextF
  split
  · exact h
  · split
    · exact h
    · unfold RdOk at h ⊢
      show r.at_ + 1 ≤ bs.length
      omega
theorem must_ok {bs : List UInt8} {r : Rd} (h : RdOk bs r) (is : Bool) : RdOk bs (mustF r is) := by
  unfold mustF
  split <;> exact h
theorem imm_ok {bs : List UInt8} {r : Rd} (h : RdOk bs r) : ∀ k, RdOk bs (immS bs r k).2
  | 0 => h
  | k + 1 => next_ok (imm_ok h k)
theorem imm_range (bs : List UInt8) (r : Rd) : ∀ k, 0 ≤ (immS bs r k).1 ∧ (immS bs r k).1 < 256 ^ k
  | 0 => ⟨Int.le_refl _, show (0 : Int) < 1 by decide⟩
  | k + 1 => by
    obtain ⟨h1, h2⟩ := imm_range bs r k
    obtain ⟨h3, h4⟩ := next_range bs (immS bs r k).2
    have hp : (0 : Int) < 256 ^ k := Int.pow_pos (by decide)
    have h5 : 0 ≤ (nextF bs (immS bs r k).2).1 * 256 ^ k := Int.mul_nonneg h3 (by omega)
    have h6 : (nextF bs (immS bs r k).2).1 * 256 ^ k ≤ 255 * 256 ^ k := Int.mul_le_mul_of_nonneg_right h4 (by omega)
    have e : (256 : Int) ^ (k + 1) = 256 ^ k * 256 := Int.pow_succ ..
    show 0 ≤ (immS bs r k).1 + _ ∧ (immS bs r k).1 + _ < 256 ^ (k + 1)
    rw [e]
    omega

/-! ### numbers, byte by byte -/
theorem or_add (n v : Nat) (j : Nat) (hn : n < 2 ^ j) : n ||| v * 2 ^ j = n + v * 2 ^ j := by
  rw [Nat.or_comm, Nat.add_comm, Nat.mul_comm, Nat.two_pow_add_eq_or_of_lt hn]
theorem p256 (j : Nat) : (256 : Nat) ^ j = 2 ^ (8 * j) := by
  rw [Nat.pow_mul]
theorem or_shl {n v : Int} {j : Nat} (hj : j < 8) (h0 : 0 ≤ n) (h1 : n < 256 ^ j) (hv0 : 0 ≤ v) (hv1 : v ≤ 255) : bitsOf .or .u64 n (shlOf .u64 v (8 * (j : Int))) = n + v * 256 ^ j := by
  obtain ⟨n, rfl⟩ := Int.eq_ofNat_of_zero_le h0
  obtain ⟨v, rfl⟩ := Int.eq_ofNat_of_zero_le hv0
  have hp : (256 : Int) ^ j = ((256 ^ j : Nat) : Int) := by rw [Int.natCast_pow]; rfl
  rw [hp] at h1 ⊢
  have h1 : n < 256 ^ j := by omega
  have hv1 : v ≤ 255 := by omega
  have hle : (256 : Nat) ^ j ≤ 256 ^ 7 := Nat.pow_le_pow_right (by decide) (by omega)
  have hb : v * 256 ^ j ≤ 255 * 256 ^ j := Nat.mul_le_mul_right _ hv1
  have hs : shlOf .u64 (v : Int) (8 * (j : Int)) = ((v * 256 ^ j : Nat) : Int) := by
    unfold shlOf
    have e1 : (8 * (j : Int)).toNat = 8 * j := by omega
    have e2 : min (8 * j) IntKind.u64.bits = 8 * j := Nat.min_eq_left (by show 8 * j ≤ 64; omega)
    rw [e1, e2]
    have e3 : (v : Int) * 2 ^ (8 * j) = ((v * 256 ^ j : Nat) : Int) := by rw [p256, Int.natCast_mul, Int.natCast_pow]; rfl
    rw [e3]
    exact IntWalk.u64_in _ ⟨by omega, by omega⟩
  rw [hs]
  show IntKind.u64.wrap ((BitVec.ofInt 64 (n : Int) ||| BitVec.ofInt 64 ((v * 256 ^ j : Nat) : Int)).toNat : Int) = _
  have en : BitVec.ofInt 64 (n : Int) = BitVec.ofNat 64 n := by rw [BitVec.ofInt_natCast]
  have ev : BitVec.ofInt 64 ((v * 256 ^ j : Nat) : Int) = BitVec.ofNat 64 (v * 256 ^ j) := by rw [BitVec.ofInt_natCast]
  rw [en, ev, BitVec.toNat_or, BitVec.toNat_ofNat, BitVec.toNat_ofNat, Nat.mod_eq_of_lt (by omega), Nat.mod_eq_of_lt (by omega)]
  have := or_add n v (8 * j) (by rw [← p256]; exact h1)
  rw [← p256] at this
  rw [this, ← Int.natCast_mul, ← Int.natCast_add]
  exact IntWalk.u64_in _ ⟨by omega, by omega⟩
theorem sgn_eq {k : Nat} (hk : k = 1 ∨ k = 4 ∨ k = 8) {n : Int} (h0 : 0 ≤ n) (h1 : n < 256 ^ k) : shrOf .i64 (IntKind.i64.wrap (shlOf .u64 n (64 - 8 * (k : Int)))) (64 - 8 * (k : Int)) = sgn k n := by
  unfold shrOf shlOf sgn
  rcases hk with rfl | rfl | rfl
  · show (IntKind.i64.wrap (IntKind.u64.wrap (n * 72057594037927936))).fdiv 72057594037927936 = if 2 * n < 256 then n else n - 256
    rw [Int.fdiv_eq_ediv_of_nonneg _ (by decide), IntKind.wrap_i64, IntKind.wrap_u64]
    have h1 : n < 256 := h1
    split <;> omega
  · show (IntKind.i64.wrap (IntKind.u64.wrap (n * 4294967296))).fdiv 4294967296 = if 2 * n < 4294967296 then n else n - 4294967296
    rw [Int.fdiv_eq_ediv_of_nonneg _ (by decide), IntKind.wrap_i64, IntKind.wrap_u64]
    have h1 : n < 4294967296 := h1
    split <;> omega
  · show (IntKind.i64.wrap (IntKind.u64.wrap (n * 1))).fdiv 1 = if 2 * n < 18446744073709551616 then n else n - 18446744073709551616
    rw [Int.fdiv_eq_ediv_of_nonneg _ (by decide), IntKind.wrap_i64, IntKind.wrap_u64]
    have h1 : n < 18446744073709551616 := h1
    split <;> omega
theorem kindN_next (op n : Int) {j : Nat} (h : j < 16) : kindN op n (j + 1) = stepN op n (kindN op n j) (kindsN.getD j 0) := by
  have hl : j < kindsN.length := h
  unfold kindN
  rw [List.take_succ_eq_append_getElem hl, List.foldl_append, List.getD_eq_getElem?_getD, List.getElem?_eq_getElem hl]
  rfl
theorem kindP_at {op : Int} {j : Nat} (hj : j < 9) (hp : ∀ i, i < j → ¬ (opF (kindsP.getD i 0)).1 = op) (h : (opF (kindsP.getD j 0)).1 = op) : kindP op = some (kindsP.getD j 0) := by
  have hl : j < kindsP.length := hj
  have g : ∀ i (hi : i < kindsP.length), kindsP.getD i 0 = kindsP[i] := fun i hi => by
    rw [List.getD_eq_getElem?_getD, List.getElem?_eq_getElem hi]; rfl
  rw [kindP, g j hl, List.find?_eq_some_iff_getElem]
  rw [g j hl] at h
  refine ⟨by rw [decide_eq_true_eq]; exact h, j, hl, rfl, fun i hi => ?_⟩
  have := hp i hi
  rw [g i (by omega)] at this
  rw [decide_eq_false this]; rfl
theorem kindP_none {op : Int} (hp : ∀ i, i < 9 → ¬ (opF (kindsP.getD i 0)).1 = op) : kindP op = none := by
  rw [kindP, List.find?_eq_none]
  intro k hk
  obtain ⟨i, hi, rfl⟩ := List.mem_iff_getElem.1 hk
  have := hp i hi
  rw [List.getD_eq_getElem?_getD, List.getElem?_eq_getElem hi] at this
  rw [decide_eq_true_eq]; exact this
theorem one_ok {bs : List UInt8} {r : Rd} (h : RdOk bs r) (x : Rx) : RdOk bs (oneD bs x r) := must_ok (next_ok (must_ok h _)) _
theorem two_ok {bs : List UInt8} {r : Rd} (h : RdOk bs r) : RdOk bs (twoD bs r) := must_ok (next_ok h) _
end Go.Proofs.YtjndpakhmgapjaaDoor

namespace Go.Proofs.YtjndpakhmgapjaaDoor
open Go Go.RowKit
set_option linter.unusedVariables false
set_option linter.unnecessarySimpa false
set_option linter.unusedSimpArgs false

set_option maxHeartbeats 400000 in
theorem next63 (b : Nat) (bs : List UInt8) (r : Rd) (hb : bs.length ≤ 1099511627776) (hr : RdOk bs r) :
    ACalls Tryd.prog 58 [.v (.pointer (some ⟨b, 0, none⟩))] [Ent.box b 68 (rdCells bs r)] (fun t_ S => t_ = .v (.int .i64 (nextF bs r).1) ∧ S = [Ent.box b 68 (rdCells bs (nextF bs r).2)]) := by
  unfold RdOk at hr
  refine ACalls.intro Tryd.func58 rfl Tryd.ntmps58 (Nat.le_of_ble_eq_true rfl) rfl fun X w0 => ?_
  refine AW.rseq ?_
  refine AWL.y rfl rfl (B rfl) (Yv.assign rfl (E rfl rfl)) ?_
  refine AWL.nil ?_
  refine AW.seq ?_
  refine AW.rseq ?_
  refine AWL.y rfl rfl (B rfl) (Yv.move rfl (E rfl rfl)) ?_
  refine AWL.y rfl rfl (B rfl) (Yv.nilChk rfl (E rfl rfl)) ?_
  refine AWL.y rfl rfl (B rfl) (Yv.fieldBox rfl fo_68_2 (E rfl rfl)) ?_
  refine AWL.y rfl rfl (B rfl) (Yv.loadBox rfl ag_4 (i := 0) rfl (E rfl rfl) rfl) ?_
  refine AWL.y rfl rfl (B rfl) (Yv.move rfl (E rfl rfl)) ?_
  refine AWL.ygF rfl rfl rfl rfl (B rfl) (Yv.move rfl (E rfl rfl)) ?_
  refine AWL.ygF rfl rfl rfl rfl (B rfl) (Yv.nilChk rfl (Eg rfl rfl id)) ?_
  refine AWL.ygF rfl rfl rfl rfl (B rfl) (Yv.fieldBox rfl fo_68_3 (Eg rfl rfl id)) ?_
  refine AWL.ygF rfl rfl rfl rfl (B rfl) (Yv.loadBox rfl ag_4 (i := 0) rfl (Eg rfl rfl id) rfl) ?_
  refine AWL.y rfl rfl (B rfl) (Yv.pickOr (t := .const (.bool true)) rfl (E rfl rfl) (Eg rfl rfl id)) ?_
  refine AWL.nil ?_
  refine AW.cond rfl (fun h0t => ?_) (fun h0f => ?_)
  ·
   try replace h0t := of_decide_eq_true h0t
   refine AW.rseq ?_
   refine AWL.y rfl rfl (B rfl) (Yv.assign rfl (E rfl rfl)) ?_
   refine AWL.nil ?_
   refine AW.ret (retI (.tmp rfl .nil) ?_)
   rw [nextF, if_pos h0t]
   exact ⟨rfl, rfl⟩
  try replace h0f := of_decide_eq_false h0f
  refine AW.skip ?_
  refine AW.seq ?_
  refine AW.rseqQ rfl (by kernel_rfl) ?_
  refine AWQ.y rfl rfl (B rfl) (Yv.move rfl (E rfl rfl)) ?_
  refine AWQ.y rfl rfl (B rfl) (Yv.nilChk rfl (E rfl rfl)) ?_
  refine AWQ.y rfl rfl (B rfl) (Yv.fieldBox rfl fo_68_1 (E rfl rfl)) ?_
  refine AWQ.y rfl rfl (B rfl) (Yv.loadBox rfl ag_3 (i := 0) rfl (E rfl rfl) rfl) ?_
  refine AWQ.y rfl rfl (B rfl) (Yv.move rfl (E rfl rfl)) ?_
  refine AWQ.y rfl rfl (B rfl) (Yv.nilChk rfl (E rfl rfl)) ?_
  refine AWQ.y rfl rfl (B rfl) (Yv.fieldBox rfl fo_68_0 (E rfl rfl)) ?_
  refine AWQ.y rfl rfl (B rfl) (Yv.loadBox rfl ag_24 (i := 0) rfl (E rfl rfl) rfl) ?_
  refine AWQ.y rfl rfl (B rfl) (Yv.lenSl rfl so_24 (B rfl) (E rfl rfl) len_u8s) ?_
  refine AWQ.y rfl rfl (B rfl) (Yv.eql rfl (E rfl rfl) (E rfl rfl)) ?_
  refine AWQ.nil ?_
  refine AW.cond rfl (fun h1t => ?_) (fun h1f => ?_)
  ·
   try replace h1t := of_decide_eq_true h1t
   refine AW.rseq ?_
   refine AWL.y rfl rfl (B rfl) (Yv.move rfl (E rfl rfl)) ?_
   refine AWL.y rfl rfl (B rfl) (Yv.nilChk rfl (E rfl rfl)) ?_
   refine AWL.y rfl rfl (B rfl) (Yv.fieldBox rfl fo_68_2 (E rfl rfl)) ?_
   refine AWL.storeBox (i := 0) rfl rfl rfl ag_4 rfl (E rfl rfl) (E rfl rfl) rfl rfl (Nat.le_of_ble_eq_true rfl) ?_
   refine AWL.nil ?_
   refine AW.rseq ?_
   refine AWL.y rfl rfl (B rfl) (Yv.assign rfl (E rfl rfl)) ?_
   refine AWL.nil ?_
   refine AW.ret (retI (.tmp rfl .nil) ?_)
   rw [nextF, if_neg (ne_true_of_eq_false h0f), if_pos (by omega)]
   exact ⟨rfl, rfl⟩
  try replace h1f := of_decide_eq_false h1f
  refine AW.skip ?_
  refine AW.rseq ?_
  refine AWL.y rfl rfl (B rfl) (Yv.move rfl (E rfl rfl)) ?_
  refine AWL.y rfl rfl (B rfl) (Yv.nilChk rfl (E rfl rfl)) ?_
  refine AWL.y rfl rfl (B rfl) (Yv.fieldBox rfl fo_68_1 (E rfl rfl)) ?_
  refine AWL.y rfl rfl (B rfl) (Yv.loadBox rfl ag_3 (i := 0) rfl (E rfl rfl) rfl) ?_
  refine AWL.y rfl rfl (B rfl) (Yv.addN_i64 rfl (E rfl rfl) (E rfl rfl) (fun hg => by omega)) ?_
  refine AWL.y rfl rfl (B rfl) (Yv.nilChk rfl (E rfl rfl)) ?_
  refine AWL.y rfl rfl (B rfl) (Yv.fieldBox rfl fo_68_1 (E rfl rfl)) ?_
  refine AWL.storeBox (i := 0) rfl rfl rfl ag_3 rfl (E rfl rfl) (E rfl rfl) rfl rfl (Nat.le_of_ble_eq_true rfl) ?_
  refine AWL.nil ?_
  refine AW.rseqQ rfl (by kernel_rfl) ?_
  refine AWQ.y rfl rfl (B rfl) (Yv.move rfl (E rfl rfl)) ?_
  refine AWQ.y rfl rfl (B rfl) (Yv.nilChk rfl (E rfl rfl)) ?_
  refine AWQ.y rfl rfl (B rfl) (Yv.fieldBox rfl fo_68_0 (E rfl rfl)) ?_
  refine AWQ.y rfl rfl (B rfl) (Yv.loadBox rfl ag_24 (i := 0) rfl (E rfl rfl) rfl) ?_
  refine AWQ.y rfl rfl (B rfl) (Yv.move rfl (E rfl rfl)) ?_
  refine AWQ.y rfl rfl (B rfl) (Yv.nilChk rfl (E rfl rfl)) ?_
  refine AWQ.y rfl rfl (B rfl) (Yv.fieldBox rfl fo_68_1 (E rfl rfl)) ?_
  refine AWQ.y rfl rfl (B rfl) (Yv.loadBox rfl ag_3 (i := 0) rfl (E rfl rfl) rfl) ?_
  refine AWQ.y rfl rfl (B rfl) (Yv.subN_i64 rfl (E rfl rfl) (E rfl rfl) (fun hg => by omega)) ?_
  refine AWQ.y rfl rfl (B rfl) (Yv.indexSl (j := r.at_) rfl ss_24 (B rfl) (E rfl rfl) (E rfl rfl) (fun hg => ⟨by omega, by simp only [len_u8s]; omega⟩)) ?_
  refine AWQ.y rfl rfl (B rfl) (Yv.loadRp rfl ag_5 (E rfl rfl) (fun hg => u8_get (by omega))) ?_
  refine AWQ.y rfl rfl (B rfl) (Yv.convU8 rfl Tryd.underlying5 kd_3 rfl (E rfl rfl)) ?_
  refine AWQ.y rfl rfl (B rfl) (Yv.assign rfl (E rfl rfl)) ?_
  refine AWQ.nil ?_
  refine AW.ret (retI (.tmp rfl .nil) ?_)
  rw [nextF, if_neg (ne_true_of_eq_false h0f), if_neg (by omega)]
  exact ⟨rfl, rfl⟩

set_option maxHeartbeats 400000 in
theorem must64 (b : Nat) (bs : List UInt8) (r : Rd) (is : Bool) :
    ACalls Tryd.prog 59 [.v (.pointer (some ⟨b, 0, none⟩)), .v (.bool is)] [Ent.box b 68 (rdCells bs r)] (fun t_ S => S = [Ent.box b 68 (rdCells bs (mustF r is))]) := by
  refine ACalls.intro Tryd.func59 rfl Tryd.ntmps59 (Nat.le_of_ble_eq_true rfl) rfl fun X w0 => ?_
  refine AW.rseq ?_
  refine AWL.y rfl rfl (B rfl) (Yv.move rfl (E rfl rfl)) ?_
  refine AWL.y rfl rfl (B rfl) (Yv.nilChk rfl (E rfl rfl)) ?_
  refine AWL.y rfl rfl (B rfl) (Yv.fieldBox rfl fo_68_2 (E rfl rfl)) ?_
  refine AWL.y rfl rfl (B rfl) (Yv.loadBox rfl ag_4 (i := 0) rfl (E rfl rfl) rfl) ?_
  refine AWL.y rfl rfl (B rfl) (Yv.not rfl (E rfl rfl)) ?_
  refine AWL.y rfl rfl (B rfl) (Yv.move rfl (E rfl rfl)) ?_
  refine AWL.ygT rfl rfl rfl rfl (B rfl) (Yv.move rfl (E rfl rfl)) ?_
  refine AWL.ygT rfl rfl rfl rfl (B rfl) (Yv.not rfl (Eg rfl rfl id)) ?_
  refine AWL.y rfl rfl (B rfl) (Yv.pickAnd rfl (E rfl rfl) (Eg rfl rfl id)) ?_
  refine AWL.nil ?_
  refine AW.cond rfl (fun h0t => ?_) (fun h0f => ?_)
  ·
   try replace h0t := of_decide_eq_true h0t
   refine AW.region ?_
   refine AWL.y rfl rfl (B rfl) (Yv.move rfl (E rfl rfl)) ?_
   refine AWL.y rfl rfl (B rfl) (Yv.nilChk rfl (E rfl rfl)) ?_
   refine AWL.y rfl rfl (B rfl) (Yv.fieldBox rfl fo_68_3 (E rfl rfl)) ?_
   refine AWL.storeBox (i := 0) rfl rfl rfl ag_4 rfl (E rfl rfl) (E rfl rfl) rfl rfl (Nat.le_of_ble_eq_true rfl) ?_
   refine AWL.nil ?_
   refine retN .nil ?_
   rw [mustF, if_pos h0t] <;> rfl
  try replace h0f := of_decide_eq_false h0f
  refine AW.skip ?_
  refine retN .nil ?_
  rw [mustF, if_neg (ne_true_of_eq_false h0f)] <;> rfl

set_option maxHeartbeats 400000 in
theorem split66 (x : Int) (h0 : 0 ≤ x) (h1 : x ≤ 255) :
    ACalls Tryd.prog 61 [.v (.int .i64 x)] [] (fun t_ S => t_ = rxT (splitF x)) := by
  refine ACalls.intro Tryd.func61 rfl Tryd.ntmps61 (Nat.le_of_ble_eq_true rfl) rfl fun X w0 => ?_
  refine AW.rseq ?_
  refine AWL.allocOp rfl rfl (B rfl) rfl zc_87 (fun b2 => ?_)
  refine AWL.nil ?_
  refine AW.rseq ?_
  refine AWL.y rfl rfl (B rfl) (Yv.move rfl (E rfl rfl)) ?_
  refine AWL.y rfl rfl (B rfl) (Yv.shrC 8 (by decide) (by decide) (by decide) rfl (E rfl rfl) (E rfl rfl)) ?_
  refine AWL.y rfl rfl (B rfl) (Yv.andN_i64 1 2 (by decide) (by decide) (by decide) rfl (E rfl rfl) (E rfl rfl) (fun hg => ⟨by omega, by omega⟩)) ?_
  refine AWL.y rfl rfl (B rfl) (Yv.move rfl (E rfl rfl)) ?_
  refine AWL.y rfl rfl (B rfl) (Yv.shrC 4 (by decide) (by decide) (by decide) rfl (E rfl rfl) (E rfl rfl)) ?_
  refine AWL.y rfl rfl (B rfl) (Yv.andN_i64 1 2 (by decide) (by decide) (by decide) rfl (E rfl rfl) (E rfl rfl) (fun hg => ⟨by omega, by omega⟩)) ?_
  refine AWL.y rfl rfl (B rfl) (Yv.shlCN_i64 8 (by decide) (by decide) rfl (E rfl rfl) (E rfl rfl) (fun hg => by omega)) ?_
  refine AWL.y rfl rfl (B rfl) (Yv.move rfl (E rfl rfl)) ?_
  refine AWL.y rfl rfl (B rfl) (Yv.andN_i64 1 2 (by decide) (by decide) (by decide) rfl (E rfl rfl) (E rfl rfl) (fun hg => ⟨by omega, by omega⟩)) ?_
  refine AWL.y rfl rfl (B rfl) (Yv.shlCN_i64 8 (by decide) (by decide) rfl (E rfl rfl) (E rfl rfl) (fun hg => by omega)) ?_
  refine AWL.y rfl rfl (B rfl) (Yv.buildS rfl sh_87 (evpC (E rfl rfl) (evpC (E rfl rfl) (evpC (E rfl rfl) evp0))) (fun _ => rfl)) ?_
  refine AWL.storeBox (i := 0) rfl rfl rfl ag_87 rfl (E rfl rfl) (E rfl rfl) rfl rfl (Nat.le_of_ble_eq_true rfl) ?_
  refine AWL.nil ?_
  refine AW.ret (retI (.cellA (i := 0) rfl ag_87 rfl rfl rfl .nil) ?_)
  rfl

set_option maxHeartbeats 1000000 in
theorem imm68 (b : Nat) (bs : List UInt8) (r : Rd) (hb : bs.length ≤ 1099511627776) (hr : RdOk bs r) (k : Nat) (hk : k = 1 ∨ k = 4 ∨ k = 8) :
    ACalls Tryd.prog 63 [.v (.pointer (some ⟨b, 0, none⟩)), .v (.int .i64 (k : Int))] [Ent.box b 68 (rdCells bs r)] (fun t_ S => t_ = .v (.int .i64 (immV bs r k)) ∧ S = [Ent.box b 68 (rdCells bs (immD bs r k))]) := by
  refine ACalls.intro Tryd.func63 rfl Tryd.ntmps63 (Nat.le_of_ble_eq_true rfl) rfl fun X w0 => ?_
  refine AW.rseq ?_
  refine AWL.y rfl rfl (B rfl) (Yv.assign rfl (E rfl rfl)) ?_
  refine AWL.nil ?_
  refine AW.rseq ?_
  refine AWL.y rfl rfl (B rfl) (Yv.assign rfl (E rfl rfl)) ?_
  refine AWL.nil ?_
  refine AW.seq ?_
  refine AW.rseq ?_
  refine AWL.y rfl rfl (B rfl) (Yv.move rfl (E rfl rfl)) ?_
  refine AWL.y rfl rfl (B rfl) (Yv.move rfl (E rfl rfl)) ?_
  refine AWL.nil ?_
  refine AW.block ?_
  refine AW.loop (fun (j : Nat) => [(0, true, .v (.pointer (some ⟨b, 0, none⟩))), (1, true, .v (.int .i64 (k : Int))), (5, true, .v (.int .u64 (immS bs r j).1)), (8, true, .v (.int .i64 (k : Int))), (9, true, .v (.int .i64 (j : Int)))]) (fun (j : Nat) => [Ent.box b 68 (rdCells bs (immS bs r j).2)]) (fun (j : Nat) => j ≤ k) (fun (j : Nat) => k - j) 0 ?_ ?_ ?_ ?_
  · exact Nat.zero_le _
  · exact (Sub.cons rfl rfl (Sub.cons rfl rfl (Sub.cons rfl rfl (Sub.cons rfl rfl (Sub.cons rfl rfl Sub.nil)))))
  · rfl
  ·
   intro j hinv
   refine AW.rseq ?_
   refine AWL.y rfl rfl (B rfl) (Yv.lss rfl (E rfl rfl) (E rfl rfl)) ?_
   refine AWL.nil ?_
   refine AW.seq ?_
   refine AW.cond rfl (fun h0t => ?_) (fun h0f => ?_)
   ·
    try replace h0t := of_decide_eq_true h0t
    refine AW.skip ?_
    refine AW.seq ?_
    refine AW.block ?_
    refine AW.rseq ?_
    refine AWL.y rfl rfl (B rfl) (Yv.move rfl (E rfl rfl)) ?_
    refine AWL.y rfl rfl (B rfl) (Yv.assign rfl (E rfl rfl)) ?_
    refine AWL.nil ?_
    obtain ⟨hv0, hv1⟩ := next_range bs (immS bs r j).2
    obtain ⟨hn0, hn1⟩ := imm_range bs r j
    refine AW.region ?_
    refine AWL.y rfl rfl (B rfl) (Yv.move rfl (E rfl rfl)) ?_
    refine AWL.y rfl rfl (B rfl) (Yv.move rfl (E rfl rfl)) ?_
    refine AWL.call rfl rfl (B rfl) rfl ce_58 (E rfl rfl) (evsC (E rfl rfl) evs0) (S1 := [Ent.box b 68 (rdCells bs (immS bs r j).2)]) (S2 := _) rfl (next63 b bs (immS bs r j).2 hb (imm_ok hr j)) ?_
    rintro t14 S14 ⟨rfl, rfl⟩
    refine AWL.y rfl rfl (B rfl) (Yv.convN_u64 rfl Tryd.underlying3 kd_78 (E rfl rfl) (fun hg => by omega)) ?_
    refine AWL.y rfl rfl (B rfl) (Yv.move rfl (E rfl rfl)) ?_
    refine AWL.y rfl rfl (B rfl) (Yv.mulN_i64 rfl (E rfl rfl) (E rfl rfl) (fun hg => by omega)) ?_
    refine AWL.y rfl rfl (B rfl) (Yv.shl rfl (E rfl rfl) (E rfl rfl) (fun hg => by omega)) ?_
    refine AWL.y rfl rfl (B rfl) (Yv.bits rfl rfl (E rfl rfl) (E rfl rfl)) ?_
    rw [or_shl (by omega) hn0 hn1 hv0 hv1]
    refine AWL.y rfl rfl (B rfl) (Yv.assign rfl (E rfl rfl)) ?_
    refine AWL.nil ?_
    refine AW.region ?_
    refine AWL.y rfl rfl (B rfl) (Yv.addN_i64 rfl (E rfl rfl) (E rfl rfl) (fun hg => by omega)) ?_
    refine AWL.y rfl rfl (B rfl) (Yv.move rfl (E rfl rfl)) ?_
    refine AWL.nil ?_
    exact ⟨j + 1, by omega, by omega, Sub.cons rfl rfl (Sub.cons rfl rfl (Sub.cons rfl rfl (Sub.cons rfl rfl (Sub.cons rfl (by simp) Sub.nil)))), rfl⟩
   try replace h0f := of_decide_eq_false h0f
   refine AW.exit ?_
   obtain rfl : j = k := by omega
   obtain ⟨hn0, hn1⟩ := imm_range bs r j
   refine AW.rseq ?_
   refine AWL.y rfl rfl (B rfl) (Yv.move rfl (E rfl rfl)) ?_
   refine AWL.y rfl rfl (B rfl) (Yv.mulN_i64 rfl (E rfl rfl) (E rfl rfl) (fun hg => by omega)) ?_
   refine AWL.y rfl rfl (B rfl) (Yv.subN_i64 rfl (E rfl rfl) (E rfl rfl) (fun hg => by omega)) ?_
   refine AWL.y rfl rfl (B rfl) (Yv.assign rfl (E rfl rfl)) ?_
   refine AWL.nil ?_
   refine AW.rseq ?_
   refine AWL.y rfl rfl (B rfl) (Yv.move rfl (E rfl rfl)) ?_
   refine AWL.y rfl rfl (B rfl) (Yv.move rfl (E rfl rfl)) ?_
   refine AWL.y rfl rfl (B rfl) (Yv.shl rfl (E rfl rfl) (E rfl rfl) (fun hg => by omega)) ?_
   refine AWL.y rfl rfl (B rfl) (Yv.conv rfl Tryd.underlying78 kd_2 (E rfl rfl)) ?_
   refine AWL.y rfl rfl (B rfl) (Yv.move rfl (E rfl rfl)) ?_
   refine AWL.y rfl rfl (B rfl) (Yv.shr rfl (E rfl rfl) (E rfl rfl) (fun hg => by omega)) ?_
   refine AWL.y rfl rfl (B rfl) (Yv.assign rfl (E rfl rfl)) ?_
   refine AWL.nil ?_
   refine AW.ret (retI (.tmp rfl .nil) ?_)
   refine ⟨?_, rfl⟩
   show T.v (.int .i64 _) = T.v (.int .i64 _)
   rw [immV, ← sgn_eq hk hn0 hn1]

set_option maxHeartbeats 400000 in
theorem two78 (b : Nat) (bs : List UInt8) (r : Rd) (hb : bs.length ≤ 1099511627776) (hr : RdOk bs r) (x : Rx) :
    ACalls Tryd.prog 78 [.v (.pointer (some ⟨b, 0, none⟩)), rxT x] [Ent.box b 68 (rdCells bs r)] (fun t_ S => t_ = .tup [.v (.int .i64 (twoV bs x r).1), .v (.int .i64 (twoV bs x r).2)] ∧ ∃ E, S = Ent.box b 68 (rdCells bs (twoD bs r)) :: E) := by
  obtain ⟨hx0, hx1⟩ := next_range bs r
  refine ACalls.intro Tryd.func78 rfl Tryd.ntmps78 (Nat.le_of_ble_eq_true rfl) rfl fun X w0 => ?_
  refine AW.rseq ?_
  refine AWL.boxOp rfl rfl (B rfl) rfl (E rfl rfl) rfl (fun b3 => ?_)
  refine AWL.y rfl rfl (B rfl) (Yv.assign rfl (E rfl rfl)) ?_
  refine AWL.y rfl rfl (B rfl) (Yv.assign rfl (E rfl rfl)) ?_
  refine AWL.nil ?_
  refine AW.rseq ?_
  refine AWL.y rfl rfl (B rfl) (Yv.move rfl (E rfl rfl)) ?_
  refine AWL.call rfl rfl (B rfl) rfl ce_58 (E rfl rfl) (evsC (E rfl rfl) evs0) (S1 := [Ent.box b 68 (rdCells bs r)]) (S2 := _) rfl (next63 b bs r hb hr) ?_
  rintro t8 S8 ⟨rfl, rfl⟩
  refine AWL.y rfl rfl (B rfl) (Yv.assign rfl (E rfl rfl)) ?_
  refine AWL.nil ?_
  refine AW.rseq ?_
  refine AWL.y rfl rfl (B rfl) (Yv.move rfl (E rfl rfl)) ?_
  refine AWL.y rfl rfl (B rfl) (Yv.move rfl (E rfl rfl)) ?_
  refine AWL.y rfl rfl (B rfl) (Yv.shrC 64 (by decide) (by decide) (by decide) rfl (E rfl rfl) (E rfl rfl)) ?_
  refine AWL.y rfl rfl (B rfl) (Yv.eql rfl (E rfl rfl) (E rfl rfl)) ?_
  refine AWL.call rfl rfl (B rfl) rfl ce_59 (E rfl rfl) (evsC (E rfl rfl) (evsC (E rfl rfl) evs0)) (S1 := [Ent.box b 68 (rdCells bs (nextF bs r).2)]) (S2 := _) rfl (must64 b bs (nextF bs r).2 (decide ((nextF bs r).1 / 64 = 3))) ?_
  rintro t13 S13 rfl
  refine AWL.nil ?_
  refine AW.rseqQ rfl (by kernel_rfl) ?_
  refine AWQ.y rfl rfl (B rfl) (Yv.fieldBox rfl fo_87_1 (E rfl rfl)) ?_
  refine AWQ.y rfl rfl (B rfl) (Yv.loadBox rfl ag_3 (i := 1) rfl (E rfl rfl) rfl) ?_
  refine AWQ.y rfl rfl (B rfl) (Yv.move rfl (E rfl rfl)) ?_
  refine AWQ.y rfl rfl (B rfl) (Yv.shrC 8 (by decide) (by decide) (by decide) rfl (E rfl rfl) (E rfl rfl)) ?_
  refine AWQ.y rfl rfl (B rfl) (Yv.andN_i64 3 8 (by decide) (by decide) (by decide) rfl (E rfl rfl) (E rfl rfl) (fun hg => ⟨by omega, by omega⟩)) ?_
  refine AWQ.y rfl rfl (B rfl) (Yv.bits rfl rfl (E rfl rfl) (E rfl rfl)) ?_
  refine AWQ.y rfl rfl (B rfl) (Yv.fieldBox rfl fo_87_2 (E rfl rfl)) ?_
  refine AWQ.y rfl rfl (B rfl) (Yv.loadBox rfl ag_3 (i := 1) rfl (E rfl rfl) rfl) ?_
  refine AWQ.y rfl rfl (B rfl) (Yv.move rfl (E rfl rfl)) ?_
  refine AWQ.y rfl rfl (B rfl) (Yv.andN_i64 3 8 (by decide) (by decide) (by decide) rfl (E rfl rfl) (E rfl rfl) (fun hg => ⟨by omega, by omega⟩)) ?_
  refine AWQ.y rfl rfl (B rfl) (Yv.bits rfl rfl (E rfl rfl) (E rfl rfl)) ?_
  refine AWQ.y rfl rfl (B rfl) (Yv.assign rfl (E rfl rfl)) ?_
  refine AWQ.y rfl rfl (B rfl) (Yv.assign rfl (E rfl rfl)) ?_
  refine AWQ.nil ?_
  refine AW.ret (retI (.tmp rfl (.tmp rfl .nil)) ?_)
  exact ⟨rfl, _, rfl⟩

set_option maxHeartbeats 400000 in
theorem one76 (b : Nat) (bs : List UInt8) (r : Rd) (hb : bs.length ≤ 1099511627776) (hr : RdOk bs r) (x : Rx) :
    ACalls Tryd.prog 76 [.v (.pointer (some ⟨b, 0, none⟩)), rxT x] [Ent.box b 68 (rdCells bs r)] (fun t_ S => t_ = .tup [.v (.int .i64 (oneV bs x r).1), .v (.int .i64 (oneV bs x r).2)] ∧ ∃ E, S = Ent.box b 68 (rdCells bs (oneD bs x r)) :: E) := by
  refine ACalls.intro Tryd.func76 rfl Tryd.ntmps76 (Nat.le_of_ble_eq_true rfl) rfl fun X w0 => ?_
  refine AW.rseq ?_
  refine AWL.boxOp rfl rfl (B rfl) rfl (E rfl rfl) rfl (fun b3 => ?_)
  refine AWL.y rfl rfl (B rfl) (Yv.assign rfl (E rfl rfl)) ?_
  refine AWL.y rfl rfl (B rfl) (Yv.assign rfl (E rfl rfl)) ?_
  refine AWL.nil ?_
  refine AW.rseq ?_
  refine AWL.y rfl rfl (B rfl) (Yv.move rfl (E rfl rfl)) ?_
  refine AWL.y rfl rfl (B rfl) (Yv.fieldBox rfl fo_87_1 (E rfl rfl)) ?_
  refine AWL.y rfl rfl (B rfl) (Yv.loadBox rfl ag_3 (i := 1) rfl (E rfl rfl) rfl) ?_
  refine AWL.y rfl rfl (B rfl) (Yv.eql rfl (E rfl rfl) (E rfl rfl)) ?_
  refine AWL.call rfl rfl (B rfl) rfl ce_59 (E rfl rfl) (evsC (E rfl rfl) (evsC (E rfl rfl) evs0)) (S1 := [Ent.box b 68 (rdCells bs r)]) (S2 := _) rfl (must64 b bs r (decide (x.reg = 0))) ?_
  rintro t10 S10 rfl
  refine AWL.nil ?_
  refine AW.rseq ?_
  refine AWL.y rfl rfl (B rfl) (Yv.move rfl (E rfl rfl)) ?_
  refine AWL.y rfl rfl (B rfl) (Yv.loadBoxA rfl ag_87 (i := 1) rfl (E rfl rfl) rfl rfl) ?_
  refine AWL.call rfl rfl (B rfl) rfl ce_78 (E rfl rfl) (evsC (E rfl rfl) (evsC (E rfl rfl) evs0)) (S1 := [Ent.box b 68 (rdCells bs (mustF r (decide (x.reg = 0))))]) (S2 := _) rfl (two78 b bs (mustF r (decide (x.reg = 0))) hb (must_ok hr _) x) ?_
  rintro t14 S14 ⟨rfl, E14, rfl⟩
  refine AWL.tuck ?_
  refine AWL.y rfl rfl (B rfl) (Yv.move rfl (E rfl rfl)) ?_
  refine AWL.y rfl rfl (B rfl) (Yv.extract rfl (E rfl rfl) rfl) ?_
  refine AWL.y rfl rfl (B rfl) (Yv.extract rfl (E rfl rfl) rfl) ?_
  refine AWL.y rfl rfl (B rfl) (Yv.assign rfl (E rfl rfl)) ?_
  refine AWL.y rfl rfl (B rfl) (Yv.assign rfl (E rfl rfl)) ?_
  refine AWL.nil ?_
  refine AW.rseq ?_
  refine AWL.y rfl rfl (B rfl) (Yv.move rfl (E rfl rfl)) ?_
  refine AWL.y rfl rfl (B rfl) (Yv.move rfl (E rfl rfl)) ?_
  refine AWL.y rfl rfl (B rfl) (Yv.assign rfl (E rfl rfl)) ?_
  refine AWL.y rfl rfl (B rfl) (Yv.assign rfl (E rfl rfl)) ?_
  refine AWL.nil ?_
  refine AW.ret (retI (.tmp rfl (.tmp rfl .nil)) ?_)
  exact ⟨rfl, _, rfl⟩

set_option maxHeartbeats 1000000 in
theorem mem74 (b : Nat) (bs : List UInt8) (r : Rd) (hb : bs.length ≤ 1099511627776) (hr : RdOk bs r) (x : Rx) :
    ACalls Tryd.prog 74 [.v (.pointer (some ⟨b, 0, none⟩)), rxT x] [Ent.box b 68 (rdCells bs r)] (fun t_ S => t_ = .tup [.v (.int .i64 (memV bs x r).1), .v (.int .i64 (memV bs x r).2.1), .v (.int .i64 (memV bs x r).2.2)] ∧ ∃ E, S = Ent.box b 68 (rdCells bs (memD bs r)) :: E) := by
  obtain ⟨hx0, hx1⟩ := next_range bs r
  have hok1 : RdOk bs (memD1 bs r) := must_ok (next_ok hr) _
  have hok2 : RdOk bs (memD2 bs r) := by
    unfold memD2
    split
    · exact must_ok (next_ok hok1) _
    · exact hok1
  refine ACalls.intro Tryd.func74 rfl Tryd.ntmps74 (Nat.le_of_ble_eq_true rfl) rfl fun X w0 => ?_
  refine AW.rseq ?_
  refine AWL.boxOp rfl rfl (B rfl) rfl (E rfl rfl) rfl (fun b3 => ?_)
  refine AWL.y rfl rfl (B rfl) (Yv.assign rfl (E rfl rfl)) ?_
  refine AWL.y rfl rfl (B rfl) (Yv.assign rfl (E rfl rfl)) ?_
  refine AWL.y rfl rfl (B rfl) (Yv.assign rfl (E rfl rfl)) ?_
  refine AWL.nil ?_
  refine AW.rseq ?_
  refine AWL.y rfl rfl (B rfl) (Yv.move rfl (E rfl rfl)) ?_
  refine AWL.call rfl rfl (B rfl) rfl ce_58 (E rfl rfl) (evsC (E rfl rfl) evs0) (S1 := [Ent.box b 68 (rdCells bs r)]) (S2 := _) rfl (next63 b bs r hb hr) ?_
  rintro t9 S9 ⟨rfl, rfl⟩
  refine AWL.y rfl rfl (B rfl) (Yv.assign rfl (E rfl rfl)) ?_
  refine AWL.nil ?_
  refine AW.rseq ?_
  refine AWL.y rfl rfl (B rfl) (Yv.move rfl (E rfl rfl)) ?_
  refine AWL.y rfl rfl (B rfl) (Yv.move rfl (E rfl rfl)) ?_
  refine AWL.y rfl rfl (B rfl) (Yv.shrC 64 (by decide) (by decide) (by decide) rfl (E rfl rfl) (E rfl rfl)) ?_
  refine AWL.y rfl rfl (B rfl) (Yv.eql rfl (E rfl rfl) (E rfl rfl)) ?_
  refine AWL.call rfl rfl (B rfl) rfl ce_59 (E rfl rfl) (evsC (E rfl rfl) (evsC (E rfl rfl) evs0)) (S1 := [Ent.box b 68 (rdCells bs (nextF bs r).2)]) (S2 := _) rfl (must64 b bs (nextF bs r).2 (decide ((nextF bs r).1 / 64 = 2))) ?_
  rintro t14 S14 rfl
  refine AWL.nil ?_
  refine AW.mid (α := Unit) (fun _ => [(0, true, .v (.pointer (some ⟨b, 0, none⟩))), (3, true, .v (.pointer (some ⟨b3, 0, none⟩))), (7, true, .v (.int .i64 (nextF bs r).1))]) (fun _ => [Ent.box b 68 (rdCells bs (memD2 bs r)), .box b3 87 (rxCells x)]) (fun _ => True) ?_ ?_
  ·
   refine AW.rseq ?_
   refine AWL.y rfl rfl (B rfl) (Yv.move rfl (E rfl rfl)) ?_
   refine AWL.y rfl rfl (B rfl) (Yv.andN_i64 3 8 (by decide) (by decide) (by decide) rfl (E rfl rfl) (E rfl rfl) (fun hg => ⟨by omega, by omega⟩)) ?_
   refine AWL.y rfl rfl (B rfl) (Yv.eql rfl (E rfl rfl) (E rfl rfl)) ?_
   refine AWL.nil ?_
   refine AW.cond rfl (fun h0t => ?_) (fun h0f => ?_)
   ·
    try replace h0t := of_decide_eq_true h0t
    replace h0t : (nextF bs r).1 % 8 = 4 := h0t
    refine AW.region ?_
    refine AWL.y rfl rfl (B rfl) (Yv.move rfl (E rfl rfl)) ?_
    refine AWL.y rfl rfl (B rfl) (Yv.move rfl (E rfl rfl)) ?_
    refine AWL.call rfl rfl (B rfl) rfl ce_58 (E rfl rfl) (evsC (E rfl rfl) evs0) (S1 := [Ent.box b 68 (rdCells bs (memD1 bs r))]) (S2 := _) rfl (next63 b bs (memD1 bs r) hb hok1) ?_
    rintro t20 S20 ⟨rfl, rfl⟩
    refine AWL.y rfl rfl (B rfl) (Yv.eql rfl (E rfl rfl) (E rfl rfl)) ?_
    refine AWL.call rfl rfl (B rfl) rfl ce_59 (E rfl rfl) (evsC (E rfl rfl) (evsC (E rfl rfl) evs0)) (S1 := [Ent.box b 68 (rdCells bs (nextF bs (memD1 bs r)).2)]) (S2 := _) rfl (must64 b bs (nextF bs (memD1 bs r)).2 (decide ((nextF bs (memD1 bs r)).1 = 36))) ?_
    rintro t22 S22 rfl
    refine AWL.nil ?_
    refine ⟨(), trivial, (Sub.cons rfl rfl (Sub.cons rfl rfl (Sub.cons rfl rfl Sub.nil))), ?_⟩
    rw [memD2, if_pos h0t]
    rfl
   try replace h0f := of_decide_eq_false h0f
   replace h0f : ¬ (nextF bs r).1 % 8 = 4 := h0f
   refine AW.skip ?_
   refine ⟨(), trivial, (Sub.cons rfl rfl (Sub.cons rfl rfl (Sub.cons rfl rfl Sub.nil))), ?_⟩
   rw [memD2, if_neg h0f]
   rfl
  ·
   rintro _ hmid
   refine AW.rseqH (HeldBox b3 (rxVals x)) rfl (tells_box (k := 1) rfl) ?_
   refine AWH.tk (i := 0) rfl rfl rfl (B rfl) (heldAll (freeField rfl fo_87_1 (E rfl rfl))) ?_
   refine AWH.tk (i := 1) rfl rfl rfl (B rfl) (heldLoad rfl ag_3 (E rfl rfl) rfl) ?_
   refine AWH.tk (i := 2) rfl rfl rfl (B rfl) (heldAll (freeMove rfl (E rfl rfl))) ?_
   refine AWH.tk (i := 3) rfl rfl rfl (B rfl) (heldAll (freeShrC 8 (by decide) (by decide) (by decide) rfl (E rfl rfl) (E rfl rfl))) ?_
   refine AWH.tk (i := 4) rfl rfl rfl (B rfl) (heldAll (freeAndN_i64 3 8 (by decide) (by decide) (by decide) rfl (E rfl rfl) (E rfl rfl) ⟨by omega, by omega⟩)) ?_
   refine AWH.tk (i := 5) rfl rfl rfl (B rfl) (heldAll (freeBits rfl rfl (E rfl rfl) (E rfl rfl))) ?_
   refine AWH.tk (i := 6) rfl rfl rfl (B rfl) (heldAll (freeField rfl fo_87_2 (E rfl rfl))) ?_
   refine AWH.tk (i := 7) rfl rfl rfl (B rfl) (heldLoad rfl ag_3 (E rfl rfl) rfl) ?_
   refine AWH.tk (i := 8) rfl rfl rfl (B rfl) (heldAll (freeMove rfl (E rfl rfl))) ?_
   refine AWH.tk (i := 9) rfl rfl rfl (B rfl) (heldAll (freeAndN_i64 3 8 (by decide) (by decide) (by decide) rfl (E rfl rfl) (E rfl rfl) ⟨by omega, by omega⟩)) ?_
   refine AWH.tk (i := 10) rfl rfl rfl (B rfl) (heldAll (freeBits rfl rfl (E rfl rfl) (E rfl rfl))) ?_
   refine AWH.one (i := 11) (by kernel_rfl) rfl ?_
   refine AWL.y rfl rfl (B rfl) (Yv.move rfl (E rfl rfl)) ?_
   refine tb 1 rfl ?_
   refine AWH.one (i := 12) (by kernel_rfl) rfl ?_
   refine AWL.call rfl rfl (B rfl) rfl ce_63 (E rfl rfl) (evsC (E rfl rfl) (evsC (E rfl rfl) evs0)) (S1 := [Ent.box b 68 (rdCells bs (memD2 bs r))]) (S2 := _) rfl (imm68 b bs (memD2 bs r) hb hok2 4 (.inr (.inl rfl))) ?_
   rintro t35 S35 ⟨rfl, rfl⟩
   refine tb 1 rfl ?_
   refine AWH.one (i := 13) (by kernel_rfl) rfl ?_
   refine AWL.y rfl rfl (B rfl) (Yv.assign rfl (E rfl rfl)) ?_
   refine tb 1 rfl ?_
   refine AWH.one (i := 14) (by kernel_rfl) rfl ?_
   refine AWL.y rfl rfl (B rfl) (Yv.assign rfl (E rfl rfl)) ?_
   refine tb 1 rfl ?_
   refine AWH.one (i := 15) (by kernel_rfl) rfl ?_
   refine AWL.y rfl rfl (B rfl) (Yv.assign rfl (E rfl rfl)) ?_
   refine tb 1 rfl ?_
   refine AWH.done (by kernel_rfl) ?_
   refine AW.ret (retI (.tmp rfl (.tmp rfl (.tmp rfl .nil))) ?_)
   exact ⟨rfl, _, rfl⟩

end Go.Proofs.YtjndpakhmgapjaaDoor
