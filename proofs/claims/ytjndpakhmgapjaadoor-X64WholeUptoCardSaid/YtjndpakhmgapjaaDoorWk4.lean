/-
  CONTRACTS of the x64 package: Encode; walked by program.
-/
import Derived.Test.YtjndpakhmgapjaaDoorWk3
namespace Go.Proofs.YtjndpakhmgapjaaDoor
open Go Go.RowKit
set_option linter.unusedVariables false
set_option linter.unnecessarySimpa false
set_option linter.unusedSimpArgs false

set_option maxRecDepth 2000 in
set_option maxHeartbeats 4000000 in
theorem encode19R (i : Ins) :
    ACalls Tryd.prog 11 [insT i] [] fun t_ S => if validF i = true then (∃ (A' : Option Addr) (r : List UInt8), t_ = .tup [.v (.slice A' (encF i).length ((encF i).length + r.length)), .v (.int .i64 0)] ∧ S = [Ent.row A' ((encF i).length + r.length) ((encF i).length + r.length) 5 1 ((encF i ++ r).map u8)]) else t_ = .tup [ofConst (.slice none 0 0), .v (.int .i64 200)] := by
  obtain ⟨r1, r2, r3⟩ := or_reg i.d
  refine ACalls.intro Tryd.func11 rfl Tryd.ntmps11 (Nat.le_of_ble_eq_true rfl) rfl fun X w0 => ?_
  refine AW.rseq ?_
  refine AWL.boxOp rfl rfl (B rfl) rfl (E rfl rfl) rfl (fun b1 => ?_)
  refine AWL.y rfl rfl (B rfl) (Yv.assign rfl (E rfl rfl)) ?_
  refine AWL.y rfl rfl (B rfl) (Yv.assign rfl (E rfl rfl)) ?_
  refine AWL.nil ?_
  refine AW.seq ?_
  refine AW.rseq ?_
  refine AWL.y rfl rfl (B rfl) (Yv.loadBoxA rfl ag_23 (i := 0) rfl (E rfl rfl) rfl rfl) ?_
  refine AWL.callP rfl rfl (B rfl) rfl ce_12 (E rfl rfl) (evsC (E rfl rfl) evs0) (valid27 i) (fun t S h => h) ?_
  refine AWL.y rfl rfl (B rfl) (Yv.not rfl (E rfl rfl)) ?_
  refine AWL.nil ?_
  refine AW.cond rfl (fun h0t => ?_) (fun h0f => ?_)
  ·
   try replace h0t := of_decide_eq_true h0t
   have hval : ¬ validF i = true := by simpa using h0t
   refine AW.rseq ?_
   refine AWL.y rfl rfl (B rfl) (Yv.assign rfl (E rfl rfl)) ?_
   refine AWL.y rfl rfl (B rfl) (Yv.assign rfl (E rfl rfl)) ?_
   refine AWL.nil ?_
   refine AW.ret (retI (.tmp rfl (.tmp rfl .nil)) ?_)
   rw [if_neg hval]
   rfl
  try replace h0f := of_decide_eq_false h0f
  have hval : validF i = true := by simpa using h0f
  obtain ⟨hkk, hd, hs, hc⟩ := validF_regs hval
  refine AW.skip ?_
  refine AW.rseq ?_
  refine AWL.y rfl rfl (B rfl) (Yv.buildS rfl sh_49 evp0 (fun _ => rfl)) ?_
  refine AWL.boxOp rfl rfl (B rfl) rfl (E rfl rfl) rfl (fun b11 => ?_)
  refine AWL.y rfl rfl (B rfl) (Yv.assign rfl (E rfl rfl)) ?_
  refine AWL.nil ?_
  refine AW.rowNil 5 1 ?_
  refine AW.perm (S' := CB b11 none [] [] ++ [.box b1 23 (insCells i)]) (List.reverse_perm [_, _, _]) ?_
  refine AW.rseq ?_
  refine AWL.y rfl rfl (B rfl) (Yv.fieldBox rfl fo_23_0 (E rfl rfl)) ?_
  refine AWL.y rfl rfl (B rfl) (Yv.loadBox rfl ag_3 (i := 2) rfl (E rfl rfl) rfl) ?_
  refine AWL.callT rfl rfl (B rfl) rfl ce_26 (E rfl rfl) (evsC (E rfl rfl) evs0) (opcode33 i.kind) ?_
  rintro t15 S15 rfl
  refine AWL.y rfl rfl (B rfl) (Yv.move rfl (E rfl rfl)) ?_
  refine AWL.y rfl rfl (B rfl) (Yv.extract rfl (E rfl rfl) rfl) ?_
  refine AWL.y rfl rfl (B rfl) (Yv.extract rfl (E rfl rfl) rfl) ?_
  refine AWL.y rfl rfl (B rfl) (Yv.assign rfl (E rfl rfl)) ?_
  refine AWL.y rfl rfl (B rfl) (Yv.assign rfl (E rfl rfl)) ?_
  refine AWL.nil ?_
  refine AW.seq ?_
  refine AW.rseq ?_
  refine AWL.y rfl rfl (B rfl) (Yv.fieldBox rfl fo_23_0 (E rfl rfl)) ?_
  refine AWL.y rfl rfl (B rfl) (Yv.loadBox rfl ag_3 (i := 2) rfl (E rfl rfl) rfl) ?_
  refine AWL.nil ?_
  refine AW.block ?_
  refine AW.seq ?_
  refine AW.rseq ?_
  refine AWL.y rfl rfl (B rfl) (Yv.eql rfl (E rfl rfl) (E rfl rfl)) ?_
  refine AWL.y rfl rfl (B rfl) (Yv.assign rfl (E rfl rfl)) ?_
  refine AWL.nil ?_
  refine AW.cond rfl (fun h1t => ?_) (fun h1f => ?_)
  ·
   try replace h1t := of_decide_eq_true h1t
   refine AW.skip ?_
   refine AW.cond rfl (fun h2t => ?_) (fun h2f => ?_)
   ·
    try replace h2t := of_decide_eq_true h2t
    refine AW.regionH (HeldBox b1 (insVals i)) rfl (tells_box (k := 2) rfl) ?_
    refine AWH.tk (i := 0) rfl rfl rfl (B rfl) (heldAll (freeMove rfl (E rfl rfl))) ?_
    refine AWH.tk (i := 1) rfl rfl rfl (B rfl) (heldAll (freeField rfl fo_23_2 (E rfl rfl))) ?_
    refine AWH.tk (i := 2) rfl rfl rfl (B rfl) (heldLoad rfl ag_3 (E rfl rfl) rfl) ?_
    refine AWH.tk (i := 3) rfl rfl rfl (B rfl) (heldAll (freeField rfl fo_23_1 (E rfl rfl))) ?_
    refine AWH.tk (i := 4) rfl rfl rfl (B rfl) (heldLoad rfl ag_3 (E rfl rfl) rfl) ?_
    refine AWH.tk (i := 6) rfl rfl rfl (B rfl) (heldAll (freeMove rfl (E rfl rfl))) ?_
    refine AWH.tk (i := 9) rfl rfl rfl (B rfl) (heldAll (freeField rfl fo_23_2 (E rfl rfl))) ?_
    refine AWH.tk (i := 10) rfl rfl rfl (B rfl) (heldLoad rfl ag_3 (E rfl rfl) rfl) ?_
    refine AWH.tk (i := 11) rfl rfl rfl (B rfl) (heldAll (freeField rfl fo_23_1 (E rfl rfl))) ?_
    refine AWH.tk (i := 12) rfl rfl rfl (B rfl) (heldLoad rfl ag_3 (E rfl rfl) rfl) ?_
    refine AWH.two (i := 5) (j := 7) (by kernel_rfl) rfl rfl ?_ ?_
    ·
     refine AWL.call rfl rfl (B rfl) rfl ce_27 (E rfl rfl) (evsC (E rfl rfl) (evsC (E rfl rfl) (evsC (E rfl rfl) (evsC (E rfl rfl) evs0)))) (S1 := CB _ _ _ _) (S2 := [_]) rfl (rex34 _ _ _ _ _ _ _) ?_
     rintro t39 S39 ⟨rfl, A39, c39, rfl⟩
     refine tb 2 rfl ?_
     refine AWH.one (i := 7) (by kernel_rfl) rfl ?_
     refine AWL.buildSlice1 rfl rfl (B rfl) rfl el_43 rfl (evsC (E rfl rfl) evs0) (Nat.le_of_ble_eq_true rfl) rfl rfl ?_
     refine tb 2 rfl ?_
     refine AWH.one (i := 8) (by kernel_rfl) rfl ?_
     refine AWL.call rfl rfl (B rfl) rfl ce_28 (E rfl rfl) (evsC (E rfl rfl) (evsC (E rfl rfl) evs0)) (S1 := CB _ _ _ _) (S2 := [_]) rfl (put35 _ _ _ _ [_]) ?_
     rintro t42 S42 ⟨rfl, A42, c42, rfl⟩
     refine tb 2 rfl ?_
     refine AWH.one (i := 13) (by kernel_rfl) rfl ?_
     refine AWL.call rfl rfl (B rfl) rfl ce_29 (E rfl rfl) (evsC (E rfl rfl) (evsC (E rfl rfl) (evsC (E rfl rfl) evs0))) (S1 := CB _ _ _ _) (S2 := [_]) rfl (two36 _ _ _ _ _ _) ?_
     rintro t47 S47 ⟨rfl, A47, c47, rfl⟩
     refine tb 2 rfl ?_
     refine AWH.done (by kernel_rfl) ?_
     refine AW.rseq ?_
     refine AWL.y rfl rfl (B rfl) (Yv.move rfl (E rfl rfl)) ?_
     refine AWL.y rfl rfl (B rfl) (Yv.nilChk rfl (E rfl rfl)) ?_
     refine AWL.y rfl rfl (B rfl) (Yv.fieldBox rfl fo_49_0 (E rfl rfl)) ?_
     refine AWL.y rfl rfl (B rfl) (Yv.loadBox rfl ag_24 (i := 1) rfl (E rfl rfl) rfl) ?_
     refine AWL.y rfl rfl (B rfl) (Yv.assign rfl (E rfl rfl)) ?_
     refine AWL.y rfl rfl (B rfl) (Yv.assign rfl (E rfl rfl)) ?_
     refine AWL.nil ?_
     refine AW.drop (List.take_sublist 1 _) ?_
     refine AW.ret (retI (.tmp rfl (.tmp rfl .nil)) ?_)
     rw [if_pos hval]
     refine enc_end ?_
     rw [enc0 (by rw [h1t]; rfl)]
     skip
     try simp only [List.append_assoc]
     rfl
    ·
     refine AWL.buildSlice1 rfl rfl (B rfl) rfl el_43 rfl (evsC (E rfl rfl) evs0) (Nat.le_of_ble_eq_true rfl) rfl rfl ?_
     refine tb 2 rfl ?_
     refine AWH.one (i := 5) (by kernel_rfl) rfl ?_
     refine AWL.call rfl rfl (B rfl) rfl ce_27 (E rfl rfl) (evsC (E rfl rfl) (evsC (E rfl rfl) (evsC (E rfl rfl) (evsC (E rfl rfl) evs0)))) (S1 := CB _ _ _ _) (S2 := [_]) rfl (rex34 _ _ _ _ _ _ _) ?_
     rintro t39 S39 ⟨rfl, A39, c39, rfl⟩
     refine tb 2 rfl ?_
     refine AWH.one (i := 8) (by kernel_rfl) rfl ?_
     refine AWL.call rfl rfl (B rfl) rfl ce_28 (E rfl rfl) (evsC (E rfl rfl) (evsC (E rfl rfl) evs0)) (S1 := CB _ _ _ _) (S2 := [_]) rfl (put35 _ _ _ _ [_]) ?_
     rintro t42 S42 ⟨rfl, A42, c42, rfl⟩
     refine tb 2 rfl ?_
     refine AWH.one (i := 13) (by kernel_rfl) rfl ?_
     refine AWL.call rfl rfl (B rfl) rfl ce_29 (E rfl rfl) (evsC (E rfl rfl) (evsC (E rfl rfl) (evsC (E rfl rfl) evs0))) (S1 := CB _ _ _ _) (S2 := [_]) rfl (two36 _ _ _ _ _ _) ?_
     rintro t47 S47 ⟨rfl, A47, c47, rfl⟩
     refine tb 2 rfl ?_
     refine AWH.done (by kernel_rfl) ?_
     refine AW.rseq ?_
     refine AWL.y rfl rfl (B rfl) (Yv.move rfl (E rfl rfl)) ?_
     refine AWL.y rfl rfl (B rfl) (Yv.nilChk rfl (E rfl rfl)) ?_
     refine AWL.y rfl rfl (B rfl) (Yv.fieldBox rfl fo_49_0 (E rfl rfl)) ?_
     refine AWL.y rfl rfl (B rfl) (Yv.loadBox rfl ag_24 (i := 1) rfl (E rfl rfl) rfl) ?_
     refine AWL.y rfl rfl (B rfl) (Yv.assign rfl (E rfl rfl)) ?_
     refine AWL.y rfl rfl (B rfl) (Yv.assign rfl (E rfl rfl)) ?_
     refine AWL.nil ?_
     refine AW.drop (List.take_sublist 1 _) ?_
     refine AW.ret (retI (.tmp rfl (.tmp rfl .nil)) ?_)
     rw [if_pos hval]
     refine enc_end ?_
     rw [enc0 (by rw [h1t]; rfl)]
     skip
     try simp only [List.append_assoc]
     rfl
   · exfalso; replace h2f := of_decide_eq_false h2f; omega
  try replace h1f := of_decide_eq_false h1f
  refine AW.rseq ?_
  refine AWL.y rfl rfl (B rfl) (Yv.eql rfl (E rfl rfl) (E rfl rfl)) ?_
  refine AWL.y rfl rfl (B rfl) (Yv.assign rfl (E rfl rfl)) ?_
  refine AWL.nil ?_
  refine AW.cond rfl (fun h3t => ?_) (fun h3f => ?_)
  ·
   try replace h3t := of_decide_eq_true h3t
   refine AW.skip ?_
   refine AW.cond rfl (fun h4t => ?_) (fun h4f => ?_)
   ·
    try replace h4t := of_decide_eq_true h4t
    refine AW.regionH (HeldBox b1 (insVals i)) rfl (tells_box (k := 2) rfl) ?_
    refine AWH.tk (i := 0) rfl rfl rfl (B rfl) (heldAll (freeMove rfl (E rfl rfl))) ?_
    refine AWH.tk (i := 1) rfl rfl rfl (B rfl) (heldAll (freeField rfl fo_23_2 (E rfl rfl))) ?_
    refine AWH.tk (i := 2) rfl rfl rfl (B rfl) (heldLoad rfl ag_3 (E rfl rfl) rfl) ?_
    refine AWH.tk (i := 3) rfl rfl rfl (B rfl) (heldAll (freeField rfl fo_23_1 (E rfl rfl))) ?_
    refine AWH.tk (i := 4) rfl rfl rfl (B rfl) (heldLoad rfl ag_3 (E rfl rfl) rfl) ?_
    refine AWH.tk (i := 6) rfl rfl rfl (B rfl) (heldAll (freeMove rfl (E rfl rfl))) ?_
    refine AWH.tk (i := 9) rfl rfl rfl (B rfl) (heldAll (freeField rfl fo_23_2 (E rfl rfl))) ?_
    refine AWH.tk (i := 10) rfl rfl rfl (B rfl) (heldLoad rfl ag_3 (E rfl rfl) rfl) ?_
    refine AWH.tk (i := 11) rfl rfl rfl (B rfl) (heldAll (freeField rfl fo_23_1 (E rfl rfl))) ?_
    refine AWH.tk (i := 12) rfl rfl rfl (B rfl) (heldLoad rfl ag_3 (E rfl rfl) rfl) ?_
    refine AWH.two (i := 5) (j := 7) (by kernel_rfl) rfl rfl ?_ ?_
    ·
     refine AWL.call rfl rfl (B rfl) rfl ce_27 (E rfl rfl) (evsC (E rfl rfl) (evsC (E rfl rfl) (evsC (E rfl rfl) (evsC (E rfl rfl) evs0)))) (S1 := CB _ _ _ _) (S2 := [_]) rfl (rex34 _ _ _ _ _ _ _) ?_
     rintro t39 S39 ⟨rfl, A39, c39, rfl⟩
     refine tb 2 rfl ?_
     refine AWH.one (i := 7) (by kernel_rfl) rfl ?_
     refine AWL.buildSlice1 rfl rfl (B rfl) rfl el_43 rfl (evsC (E rfl rfl) evs0) (Nat.le_of_ble_eq_true rfl) rfl rfl ?_
     refine tb 2 rfl ?_
     refine AWH.one (i := 8) (by kernel_rfl) rfl ?_
     refine AWL.call rfl rfl (B rfl) rfl ce_28 (E rfl rfl) (evsC (E rfl rfl) (evsC (E rfl rfl) evs0)) (S1 := CB _ _ _ _) (S2 := [_]) rfl (put35 _ _ _ _ [_]) ?_
     rintro t42 S42 ⟨rfl, A42, c42, rfl⟩
     refine tb 2 rfl ?_
     refine AWH.one (i := 13) (by kernel_rfl) rfl ?_
     refine AWL.call rfl rfl (B rfl) rfl ce_29 (E rfl rfl) (evsC (E rfl rfl) (evsC (E rfl rfl) (evsC (E rfl rfl) evs0))) (S1 := CB _ _ _ _) (S2 := [_]) rfl (two36 _ _ _ _ _ _) ?_
     rintro t47 S47 ⟨rfl, A47, c47, rfl⟩
     refine tb 2 rfl ?_
     refine AWH.done (by kernel_rfl) ?_
     refine AW.rseq ?_
     refine AWL.y rfl rfl (B rfl) (Yv.move rfl (E rfl rfl)) ?_
     refine AWL.y rfl rfl (B rfl) (Yv.nilChk rfl (E rfl rfl)) ?_
     refine AWL.y rfl rfl (B rfl) (Yv.fieldBox rfl fo_49_0 (E rfl rfl)) ?_
     refine AWL.y rfl rfl (B rfl) (Yv.loadBox rfl ag_24 (i := 1) rfl (E rfl rfl) rfl) ?_
     refine AWL.y rfl rfl (B rfl) (Yv.assign rfl (E rfl rfl)) ?_
     refine AWL.y rfl rfl (B rfl) (Yv.assign rfl (E rfl rfl)) ?_
     refine AWL.nil ?_
     refine AW.drop (List.take_sublist 1 _) ?_
     refine AW.ret (retI (.tmp rfl (.tmp rfl .nil)) ?_)
     rw [if_pos hval]
     refine enc_end ?_
     rw [enc0 (by rw [h3t]; rfl)]
     skip
     try simp only [List.append_assoc]
     rfl
    ·
     refine AWL.buildSlice1 rfl rfl (B rfl) rfl el_43 rfl (evsC (E rfl rfl) evs0) (Nat.le_of_ble_eq_true rfl) rfl rfl ?_
     refine tb 2 rfl ?_
     refine AWH.one (i := 5) (by kernel_rfl) rfl ?_
     refine AWL.call rfl rfl (B rfl) rfl ce_27 (E rfl rfl) (evsC (E rfl rfl) (evsC (E rfl rfl) (evsC (E rfl rfl) (evsC (E rfl rfl) evs0)))) (S1 := CB _ _ _ _) (S2 := [_]) rfl (rex34 _ _ _ _ _ _ _) ?_
     rintro t39 S39 ⟨rfl, A39, c39, rfl⟩
     refine tb 2 rfl ?_
     refine AWH.one (i := 8) (by kernel_rfl) rfl ?_
     refine AWL.call rfl rfl (B rfl) rfl ce_28 (E rfl rfl) (evsC (E rfl rfl) (evsC (E rfl rfl) evs0)) (S1 := CB _ _ _ _) (S2 := [_]) rfl (put35 _ _ _ _ [_]) ?_
     rintro t42 S42 ⟨rfl, A42, c42, rfl⟩
     refine tb 2 rfl ?_
     refine AWH.one (i := 13) (by kernel_rfl) rfl ?_
     refine AWL.call rfl rfl (B rfl) rfl ce_29 (E rfl rfl) (evsC (E rfl rfl) (evsC (E rfl rfl) (evsC (E rfl rfl) evs0))) (S1 := CB _ _ _ _) (S2 := [_]) rfl (two36 _ _ _ _ _ _) ?_
     rintro t47 S47 ⟨rfl, A47, c47, rfl⟩
     refine tb 2 rfl ?_
     refine AWH.done (by kernel_rfl) ?_
     refine AW.rseq ?_
     refine AWL.y rfl rfl (B rfl) (Yv.move rfl (E rfl rfl)) ?_
     refine AWL.y rfl rfl (B rfl) (Yv.nilChk rfl (E rfl rfl)) ?_
     refine AWL.y rfl rfl (B rfl) (Yv.fieldBox rfl fo_49_0 (E rfl rfl)) ?_
     refine AWL.y rfl rfl (B rfl) (Yv.loadBox rfl ag_24 (i := 1) rfl (E rfl rfl) rfl) ?_
     refine AWL.y rfl rfl (B rfl) (Yv.assign rfl (E rfl rfl)) ?_
     refine AWL.y rfl rfl (B rfl) (Yv.assign rfl (E rfl rfl)) ?_
     refine AWL.nil ?_
     refine AW.drop (List.take_sublist 1 _) ?_
     refine AW.ret (retI (.tmp rfl (.tmp rfl .nil)) ?_)
     rw [if_pos hval]
     refine enc_end ?_
     rw [enc0 (by rw [h3t]; rfl)]
     skip
     try simp only [List.append_assoc]
     rfl
   · exfalso; replace h4f := of_decide_eq_false h4f; omega
  try replace h3f := of_decide_eq_false h3f
  refine AW.rseq ?_
  refine AWL.y rfl rfl (B rfl) (Yv.eql rfl (E rfl rfl) (E rfl rfl)) ?_
  refine AWL.y rfl rfl (B rfl) (Yv.assign rfl (E rfl rfl)) ?_
  refine AWL.nil ?_
  refine AW.cond rfl (fun h5t => ?_) (fun h5f => ?_)
  ·
   try replace h5t := of_decide_eq_true h5t
   refine AW.skip ?_
   refine AW.cond rfl (fun h6t => ?_) (fun h6f => ?_)
   ·
    try replace h6t := of_decide_eq_true h6t
    refine AW.regionH (HeldBox b1 (insVals i)) rfl (tells_box (k := 2) rfl) ?_
    refine AWH.tk (i := 0) rfl rfl rfl (B rfl) (heldAll (freeMove rfl (E rfl rfl))) ?_
    refine AWH.tk (i := 1) rfl rfl rfl (B rfl) (heldAll (freeField rfl fo_23_2 (E rfl rfl))) ?_
    refine AWH.tk (i := 2) rfl rfl rfl (B rfl) (heldLoad rfl ag_3 (E rfl rfl) rfl) ?_
    refine AWH.tk (i := 3) rfl rfl rfl (B rfl) (heldAll (freeField rfl fo_23_1 (E rfl rfl))) ?_
    refine AWH.tk (i := 4) rfl rfl rfl (B rfl) (heldLoad rfl ag_3 (E rfl rfl) rfl) ?_
    refine AWH.tk (i := 6) rfl rfl rfl (B rfl) (heldAll (freeMove rfl (E rfl rfl))) ?_
    refine AWH.tk (i := 9) rfl rfl rfl (B rfl) (heldAll (freeField rfl fo_23_2 (E rfl rfl))) ?_
    refine AWH.tk (i := 10) rfl rfl rfl (B rfl) (heldLoad rfl ag_3 (E rfl rfl) rfl) ?_
    refine AWH.tk (i := 11) rfl rfl rfl (B rfl) (heldAll (freeField rfl fo_23_1 (E rfl rfl))) ?_
    refine AWH.tk (i := 12) rfl rfl rfl (B rfl) (heldLoad rfl ag_3 (E rfl rfl) rfl) ?_
    refine AWH.two (i := 5) (j := 7) (by kernel_rfl) rfl rfl ?_ ?_
    ·
     refine AWL.call rfl rfl (B rfl) rfl ce_27 (E rfl rfl) (evsC (E rfl rfl) (evsC (E rfl rfl) (evsC (E rfl rfl) (evsC (E rfl rfl) evs0)))) (S1 := CB _ _ _ _) (S2 := [_]) rfl (rex34 _ _ _ _ _ _ _) ?_
     rintro t39 S39 ⟨rfl, A39, c39, rfl⟩
     refine tb 2 rfl ?_
     refine AWH.one (i := 7) (by kernel_rfl) rfl ?_
     refine AWL.buildSlice1 rfl rfl (B rfl) rfl el_43 rfl (evsC (E rfl rfl) evs0) (Nat.le_of_ble_eq_true rfl) rfl rfl ?_
     refine tb 2 rfl ?_
     refine AWH.one (i := 8) (by kernel_rfl) rfl ?_
     refine AWL.call rfl rfl (B rfl) rfl ce_28 (E rfl rfl) (evsC (E rfl rfl) (evsC (E rfl rfl) evs0)) (S1 := CB _ _ _ _) (S2 := [_]) rfl (put35 _ _ _ _ [_]) ?_
     rintro t42 S42 ⟨rfl, A42, c42, rfl⟩
     refine tb 2 rfl ?_
     refine AWH.one (i := 13) (by kernel_rfl) rfl ?_
     refine AWL.call rfl rfl (B rfl) rfl ce_29 (E rfl rfl) (evsC (E rfl rfl) (evsC (E rfl rfl) (evsC (E rfl rfl) evs0))) (S1 := CB _ _ _ _) (S2 := [_]) rfl (two36 _ _ _ _ _ _) ?_
     rintro t47 S47 ⟨rfl, A47, c47, rfl⟩
     refine tb 2 rfl ?_
     refine AWH.done (by kernel_rfl) ?_
     refine AW.rseq ?_
     refine AWL.y rfl rfl (B rfl) (Yv.move rfl (E rfl rfl)) ?_
     refine AWL.y rfl rfl (B rfl) (Yv.nilChk rfl (E rfl rfl)) ?_
     refine AWL.y rfl rfl (B rfl) (Yv.fieldBox rfl fo_49_0 (E rfl rfl)) ?_
     refine AWL.y rfl rfl (B rfl) (Yv.loadBox rfl ag_24 (i := 1) rfl (E rfl rfl) rfl) ?_
     refine AWL.y rfl rfl (B rfl) (Yv.assign rfl (E rfl rfl)) ?_
     refine AWL.y rfl rfl (B rfl) (Yv.assign rfl (E rfl rfl)) ?_
     refine AWL.nil ?_
     refine AW.drop (List.take_sublist 1 _) ?_
     refine AW.ret (retI (.tmp rfl (.tmp rfl .nil)) ?_)
     rw [if_pos hval]
     refine enc_end ?_
     rw [enc0 (by rw [h5t]; rfl)]
     skip
     try simp only [List.append_assoc]
     rfl
    ·
     refine AWL.buildSlice1 rfl rfl (B rfl) rfl el_43 rfl (evsC (E rfl rfl) evs0) (Nat.le_of_ble_eq_true rfl) rfl rfl ?_
     refine tb 2 rfl ?_
     refine AWH.one (i := 5) (by kernel_rfl) rfl ?_
     refine AWL.call rfl rfl (B rfl) rfl ce_27 (E rfl rfl) (evsC (E rfl rfl) (evsC (E rfl rfl) (evsC (E rfl rfl) (evsC (E rfl rfl) evs0)))) (S1 := CB _ _ _ _) (S2 := [_]) rfl (rex34 _ _ _ _ _ _ _) ?_
     rintro t39 S39 ⟨rfl, A39, c39, rfl⟩
     refine tb 2 rfl ?_
     refine AWH.one (i := 8) (by kernel_rfl) rfl ?_
     refine AWL.call rfl rfl (B rfl) rfl ce_28 (E rfl rfl) (evsC (E rfl rfl) (evsC (E rfl rfl) evs0)) (S1 := CB _ _ _ _) (S2 := [_]) rfl (put35 _ _ _ _ [_]) ?_
     rintro t42 S42 ⟨rfl, A42, c42, rfl⟩
     refine tb 2 rfl ?_
     refine AWH.one (i := 13) (by kernel_rfl) rfl ?_
     refine AWL.call rfl rfl (B rfl) rfl ce_29 (E rfl rfl) (evsC (E rfl rfl) (evsC (E rfl rfl) (evsC (E rfl rfl) evs0))) (S1 := CB _ _ _ _) (S2 := [_]) rfl (two36 _ _ _ _ _ _) ?_
     rintro t47 S47 ⟨rfl, A47, c47, rfl⟩
     refine tb 2 rfl ?_
     refine AWH.done (by kernel_rfl) ?_
     refine AW.rseq ?_
     refine AWL.y rfl rfl (B rfl) (Yv.move rfl (E rfl rfl)) ?_
     refine AWL.y rfl rfl (B rfl) (Yv.nilChk rfl (E rfl rfl)) ?_
     refine AWL.y rfl rfl (B rfl) (Yv.fieldBox rfl fo_49_0 (E rfl rfl)) ?_
     refine AWL.y rfl rfl (B rfl) (Yv.loadBox rfl ag_24 (i := 1) rfl (E rfl rfl) rfl) ?_
     refine AWL.y rfl rfl (B rfl) (Yv.assign rfl (E rfl rfl)) ?_
     refine AWL.y rfl rfl (B rfl) (Yv.assign rfl (E rfl rfl)) ?_
     refine AWL.nil ?_
     refine AW.drop (List.take_sublist 1 _) ?_
     refine AW.ret (retI (.tmp rfl (.tmp rfl .nil)) ?_)
     rw [if_pos hval]
     refine enc_end ?_
     rw [enc0 (by rw [h5t]; rfl)]
     skip
     try simp only [List.append_assoc]
     rfl
   · exfalso; replace h6f := of_decide_eq_false h6f; omega
  try replace h5f := of_decide_eq_false h5f
  refine AW.rseq ?_
  refine AWL.y rfl rfl (B rfl) (Yv.eql rfl (E rfl rfl) (E rfl rfl)) ?_
  refine AWL.y rfl rfl (B rfl) (Yv.assign rfl (E rfl rfl)) ?_
  refine AWL.nil ?_
  refine AW.cond rfl (fun h7t => ?_) (fun h7f => ?_)
  ·
   try replace h7t := of_decide_eq_true h7t
   refine AW.skip ?_
   refine AW.cond rfl (fun h8t => ?_) (fun h8f => ?_)
   ·
    try replace h8t := of_decide_eq_true h8t
    refine AW.regionH (HeldBox b1 (insVals i)) rfl (tells_box (k := 2) rfl) ?_
    refine AWH.tk (i := 0) rfl rfl rfl (B rfl) (heldAll (freeMove rfl (E rfl rfl))) ?_
    refine AWH.tk (i := 1) rfl rfl rfl (B rfl) (heldAll (freeField rfl fo_23_2 (E rfl rfl))) ?_
    refine AWH.tk (i := 2) rfl rfl rfl (B rfl) (heldLoad rfl ag_3 (E rfl rfl) rfl) ?_
    refine AWH.tk (i := 3) rfl rfl rfl (B rfl) (heldAll (freeField rfl fo_23_1 (E rfl rfl))) ?_
    refine AWH.tk (i := 4) rfl rfl rfl (B rfl) (heldLoad rfl ag_3 (E rfl rfl) rfl) ?_
    refine AWH.tk (i := 6) rfl rfl rfl (B rfl) (heldAll (freeMove rfl (E rfl rfl))) ?_
    refine AWH.tk (i := 9) rfl rfl rfl (B rfl) (heldAll (freeField rfl fo_23_2 (E rfl rfl))) ?_
    refine AWH.tk (i := 10) rfl rfl rfl (B rfl) (heldLoad rfl ag_3 (E rfl rfl) rfl) ?_
    refine AWH.tk (i := 11) rfl rfl rfl (B rfl) (heldAll (freeField rfl fo_23_1 (E rfl rfl))) ?_
    refine AWH.tk (i := 12) rfl rfl rfl (B rfl) (heldLoad rfl ag_3 (E rfl rfl) rfl) ?_
    refine AWH.two (i := 5) (j := 7) (by kernel_rfl) rfl rfl ?_ ?_
    ·
     refine AWL.call rfl rfl (B rfl) rfl ce_27 (E rfl rfl) (evsC (E rfl rfl) (evsC (E rfl rfl) (evsC (E rfl rfl) (evsC (E rfl rfl) evs0)))) (S1 := CB _ _ _ _) (S2 := [_]) rfl (rex34 _ _ _ _ _ _ _) ?_
     rintro t39 S39 ⟨rfl, A39, c39, rfl⟩
     refine tb 2 rfl ?_
     refine AWH.one (i := 7) (by kernel_rfl) rfl ?_
     refine AWL.buildSlice1 rfl rfl (B rfl) rfl el_43 rfl (evsC (E rfl rfl) evs0) (Nat.le_of_ble_eq_true rfl) rfl rfl ?_
     refine tb 2 rfl ?_
     refine AWH.one (i := 8) (by kernel_rfl) rfl ?_
     refine AWL.call rfl rfl (B rfl) rfl ce_28 (E rfl rfl) (evsC (E rfl rfl) (evsC (E rfl rfl) evs0)) (S1 := CB _ _ _ _) (S2 := [_]) rfl (put35 _ _ _ _ [_]) ?_
     rintro t42 S42 ⟨rfl, A42, c42, rfl⟩
     refine tb 2 rfl ?_
     refine AWH.one (i := 13) (by kernel_rfl) rfl ?_
     refine AWL.call rfl rfl (B rfl) rfl ce_29 (E rfl rfl) (evsC (E rfl rfl) (evsC (E rfl rfl) (evsC (E rfl rfl) evs0))) (S1 := CB _ _ _ _) (S2 := [_]) rfl (two36 _ _ _ _ _ _) ?_
     rintro t47 S47 ⟨rfl, A47, c47, rfl⟩
     refine tb 2 rfl ?_
     refine AWH.done (by kernel_rfl) ?_
     refine AW.rseq ?_
     refine AWL.y rfl rfl (B rfl) (Yv.move rfl (E rfl rfl)) ?_
     refine AWL.y rfl rfl (B rfl) (Yv.nilChk rfl (E rfl rfl)) ?_
     refine AWL.y rfl rfl (B rfl) (Yv.fieldBox rfl fo_49_0 (E rfl rfl)) ?_
     refine AWL.y rfl rfl (B rfl) (Yv.loadBox rfl ag_24 (i := 1) rfl (E rfl rfl) rfl) ?_
     refine AWL.y rfl rfl (B rfl) (Yv.assign rfl (E rfl rfl)) ?_
     refine AWL.y rfl rfl (B rfl) (Yv.assign rfl (E rfl rfl)) ?_
     refine AWL.nil ?_
     refine AW.drop (List.take_sublist 1 _) ?_
     refine AW.ret (retI (.tmp rfl (.tmp rfl .nil)) ?_)
     rw [if_pos hval]
     refine enc_end ?_
     rw [enc0 (by rw [h7t]; rfl)]
     skip
     try simp only [List.append_assoc]
     rfl
    ·
     refine AWL.buildSlice1 rfl rfl (B rfl) rfl el_43 rfl (evsC (E rfl rfl) evs0) (Nat.le_of_ble_eq_true rfl) rfl rfl ?_
     refine tb 2 rfl ?_
     refine AWH.one (i := 5) (by kernel_rfl) rfl ?_
     refine AWL.call rfl rfl (B rfl) rfl ce_27 (E rfl rfl) (evsC (E rfl rfl) (evsC (E rfl rfl) (evsC (E rfl rfl) (evsC (E rfl rfl) evs0)))) (S1 := CB _ _ _ _) (S2 := [_]) rfl (rex34 _ _ _ _ _ _ _) ?_
     rintro t39 S39 ⟨rfl, A39, c39, rfl⟩
     refine tb 2 rfl ?_
     refine AWH.one (i := 8) (by kernel_rfl) rfl ?_
     refine AWL.call rfl rfl (B rfl) rfl ce_28 (E rfl rfl) (evsC (E rfl rfl) (evsC (E rfl rfl) evs0)) (S1 := CB _ _ _ _) (S2 := [_]) rfl (put35 _ _ _ _ [_]) ?_
     rintro t42 S42 ⟨rfl, A42, c42, rfl⟩
     refine tb 2 rfl ?_
     refine AWH.one (i := 13) (by kernel_rfl) rfl ?_
     refine AWL.call rfl rfl (B rfl) rfl ce_29 (E rfl rfl) (evsC (E rfl rfl) (evsC (E rfl rfl) (evsC (E rfl rfl) evs0))) (S1 := CB _ _ _ _) (S2 := [_]) rfl (two36 _ _ _ _ _ _) ?_
     rintro t47 S47 ⟨rfl, A47, c47, rfl⟩
     refine tb 2 rfl ?_
     refine AWH.done (by kernel_rfl) ?_
     refine AW.rseq ?_
     refine AWL.y rfl rfl (B rfl) (Yv.move rfl (E rfl rfl)) ?_
     refine AWL.y rfl rfl (B rfl) (Yv.nilChk rfl (E rfl rfl)) ?_
     refine AWL.y rfl rfl (B rfl) (Yv.fieldBox rfl fo_49_0 (E rfl rfl)) ?_
     refine AWL.y rfl rfl (B rfl) (Yv.loadBox rfl ag_24 (i := 1) rfl (E rfl rfl) rfl) ?_
     refine AWL.y rfl rfl (B rfl) (Yv.assign rfl (E rfl rfl)) ?_
     refine AWL.y rfl rfl (B rfl) (Yv.assign rfl (E rfl rfl)) ?_
     refine AWL.nil ?_
     refine AW.drop (List.take_sublist 1 _) ?_
     refine AW.ret (retI (.tmp rfl (.tmp rfl .nil)) ?_)
     rw [if_pos hval]
     refine enc_end ?_
     rw [enc0 (by rw [h7t]; rfl)]
     skip
     try simp only [List.append_assoc]
     rfl
   · exfalso; replace h8f := of_decide_eq_false h8f; omega
  try replace h7f := of_decide_eq_false h7f
  refine AW.rseq ?_
  refine AWL.y rfl rfl (B rfl) (Yv.eql rfl (E rfl rfl) (E rfl rfl)) ?_
  refine AWL.y rfl rfl (B rfl) (Yv.assign rfl (E rfl rfl)) ?_
  refine AWL.nil ?_
  refine AW.cond rfl (fun h9t => ?_) (fun h9f => ?_)
  ·
   try replace h9t := of_decide_eq_true h9t
   refine AW.skip ?_
   refine AW.cond rfl (fun h10t => ?_) (fun h10f => ?_)
   ·
    try replace h10t := of_decide_eq_true h10t
    refine AW.regionH (HeldBox b1 (insVals i)) rfl (tells_box (k := 2) rfl) ?_
    refine AWH.tk (i := 0) rfl rfl rfl (B rfl) (heldAll (freeMove rfl (E rfl rfl))) ?_
    refine AWH.tk (i := 1) rfl rfl rfl (B rfl) (heldAll (freeField rfl fo_23_2 (E rfl rfl))) ?_
    refine AWH.tk (i := 2) rfl rfl rfl (B rfl) (heldLoad rfl ag_3 (E rfl rfl) rfl) ?_
    refine AWH.tk (i := 3) rfl rfl rfl (B rfl) (heldAll (freeField rfl fo_23_1 (E rfl rfl))) ?_
    refine AWH.tk (i := 4) rfl rfl rfl (B rfl) (heldLoad rfl ag_3 (E rfl rfl) rfl) ?_
    refine AWH.tk (i := 6) rfl rfl rfl (B rfl) (heldAll (freeMove rfl (E rfl rfl))) ?_
    refine AWH.tk (i := 9) rfl rfl rfl (B rfl) (heldAll (freeField rfl fo_23_2 (E rfl rfl))) ?_
    refine AWH.tk (i := 10) rfl rfl rfl (B rfl) (heldLoad rfl ag_3 (E rfl rfl) rfl) ?_
    refine AWH.tk (i := 11) rfl rfl rfl (B rfl) (heldAll (freeField rfl fo_23_1 (E rfl rfl))) ?_
    refine AWH.tk (i := 12) rfl rfl rfl (B rfl) (heldLoad rfl ag_3 (E rfl rfl) rfl) ?_
    refine AWH.two (i := 5) (j := 7) (by kernel_rfl) rfl rfl ?_ ?_
    ·
     refine AWL.call rfl rfl (B rfl) rfl ce_27 (E rfl rfl) (evsC (E rfl rfl) (evsC (E rfl rfl) (evsC (E rfl rfl) (evsC (E rfl rfl) evs0)))) (S1 := CB _ _ _ _) (S2 := [_]) rfl (rex34 _ _ _ _ _ _ _) ?_
     rintro t39 S39 ⟨rfl, A39, c39, rfl⟩
     refine tb 2 rfl ?_
     refine AWH.one (i := 7) (by kernel_rfl) rfl ?_
     refine AWL.buildSlice1 rfl rfl (B rfl) rfl el_43 rfl (evsC (E rfl rfl) evs0) (Nat.le_of_ble_eq_true rfl) rfl rfl ?_
     refine tb 2 rfl ?_
     refine AWH.one (i := 8) (by kernel_rfl) rfl ?_
     refine AWL.call rfl rfl (B rfl) rfl ce_28 (E rfl rfl) (evsC (E rfl rfl) (evsC (E rfl rfl) evs0)) (S1 := CB _ _ _ _) (S2 := [_]) rfl (put35 _ _ _ _ [_]) ?_
     rintro t42 S42 ⟨rfl, A42, c42, rfl⟩
     refine tb 2 rfl ?_
     refine AWH.one (i := 13) (by kernel_rfl) rfl ?_
     refine AWL.call rfl rfl (B rfl) rfl ce_29 (E rfl rfl) (evsC (E rfl rfl) (evsC (E rfl rfl) (evsC (E rfl rfl) evs0))) (S1 := CB _ _ _ _) (S2 := [_]) rfl (two36 _ _ _ _ _ _) ?_
     rintro t47 S47 ⟨rfl, A47, c47, rfl⟩
     refine tb 2 rfl ?_
     refine AWH.done (by kernel_rfl) ?_
     refine AW.rseq ?_
     refine AWL.y rfl rfl (B rfl) (Yv.move rfl (E rfl rfl)) ?_
     refine AWL.y rfl rfl (B rfl) (Yv.nilChk rfl (E rfl rfl)) ?_
     refine AWL.y rfl rfl (B rfl) (Yv.fieldBox rfl fo_49_0 (E rfl rfl)) ?_
     refine AWL.y rfl rfl (B rfl) (Yv.loadBox rfl ag_24 (i := 1) rfl (E rfl rfl) rfl) ?_
     refine AWL.y rfl rfl (B rfl) (Yv.assign rfl (E rfl rfl)) ?_
     refine AWL.y rfl rfl (B rfl) (Yv.assign rfl (E rfl rfl)) ?_
     refine AWL.nil ?_
     refine AW.drop (List.take_sublist 1 _) ?_
     refine AW.ret (retI (.tmp rfl (.tmp rfl .nil)) ?_)
     rw [if_pos hval]
     refine enc_end ?_
     rw [enc0 (by rw [h9t]; rfl)]
     skip
     try simp only [List.append_assoc]
     rfl
    ·
     refine AWL.buildSlice1 rfl rfl (B rfl) rfl el_43 rfl (evsC (E rfl rfl) evs0) (Nat.le_of_ble_eq_true rfl) rfl rfl ?_
     refine tb 2 rfl ?_
     refine AWH.one (i := 5) (by kernel_rfl) rfl ?_
     refine AWL.call rfl rfl (B rfl) rfl ce_27 (E rfl rfl) (evsC (E rfl rfl) (evsC (E rfl rfl) (evsC (E rfl rfl) (evsC (E rfl rfl) evs0)))) (S1 := CB _ _ _ _) (S2 := [_]) rfl (rex34 _ _ _ _ _ _ _) ?_
     rintro t39 S39 ⟨rfl, A39, c39, rfl⟩
     refine tb 2 rfl ?_
     refine AWH.one (i := 8) (by kernel_rfl) rfl ?_
     refine AWL.call rfl rfl (B rfl) rfl ce_28 (E rfl rfl) (evsC (E rfl rfl) (evsC (E rfl rfl) evs0)) (S1 := CB _ _ _ _) (S2 := [_]) rfl (put35 _ _ _ _ [_]) ?_
     rintro t42 S42 ⟨rfl, A42, c42, rfl⟩
     refine tb 2 rfl ?_
     refine AWH.one (i := 13) (by kernel_rfl) rfl ?_
     refine AWL.call rfl rfl (B rfl) rfl ce_29 (E rfl rfl) (evsC (E rfl rfl) (evsC (E rfl rfl) (evsC (E rfl rfl) evs0))) (S1 := CB _ _ _ _) (S2 := [_]) rfl (two36 _ _ _ _ _ _) ?_
     rintro t47 S47 ⟨rfl, A47, c47, rfl⟩
     refine tb 2 rfl ?_
     refine AWH.done (by kernel_rfl) ?_
     refine AW.rseq ?_
     refine AWL.y rfl rfl (B rfl) (Yv.move rfl (E rfl rfl)) ?_
     refine AWL.y rfl rfl (B rfl) (Yv.nilChk rfl (E rfl rfl)) ?_
     refine AWL.y rfl rfl (B rfl) (Yv.fieldBox rfl fo_49_0 (E rfl rfl)) ?_
     refine AWL.y rfl rfl (B rfl) (Yv.loadBox rfl ag_24 (i := 1) rfl (E rfl rfl) rfl) ?_
     refine AWL.y rfl rfl (B rfl) (Yv.assign rfl (E rfl rfl)) ?_
     refine AWL.y rfl rfl (B rfl) (Yv.assign rfl (E rfl rfl)) ?_
     refine AWL.nil ?_
     refine AW.drop (List.take_sublist 1 _) ?_
     refine AW.ret (retI (.tmp rfl (.tmp rfl .nil)) ?_)
     rw [if_pos hval]
     refine enc_end ?_
     rw [enc0 (by rw [h9t]; rfl)]
     skip
     try simp only [List.append_assoc]
     rfl
   · exfalso; replace h10f := of_decide_eq_false h10f; omega
  try replace h9f := of_decide_eq_false h9f
  refine AW.rseq ?_
  refine AWL.y rfl rfl (B rfl) (Yv.eql rfl (E rfl rfl) (E rfl rfl)) ?_
  refine AWL.y rfl rfl (B rfl) (Yv.assign rfl (E rfl rfl)) ?_
  refine AWL.nil ?_
  refine AW.cond rfl (fun h11t => ?_) (fun h11f => ?_)
  ·
   try replace h11t := of_decide_eq_true h11t
   refine AW.skip ?_
   refine AW.cond rfl (fun h12t => ?_) (fun h12f => ?_)
   ·
    try replace h12t := of_decide_eq_true h12t
    refine AW.regionH (HeldBox b1 (insVals i)) rfl (tells_box (k := 2) rfl) ?_
    refine AWH.tk (i := 0) rfl rfl rfl (B rfl) (heldAll (freeMove rfl (E rfl rfl))) ?_
    refine AWH.tk (i := 1) rfl rfl rfl (B rfl) (heldAll (freeField rfl fo_23_2 (E rfl rfl))) ?_
    refine AWH.tk (i := 2) rfl rfl rfl (B rfl) (heldLoad rfl ag_3 (E rfl rfl) rfl) ?_
    refine AWH.tk (i := 3) rfl rfl rfl (B rfl) (heldAll (freeField rfl fo_23_1 (E rfl rfl))) ?_
    refine AWH.tk (i := 4) rfl rfl rfl (B rfl) (heldLoad rfl ag_3 (E rfl rfl) rfl) ?_
    refine AWH.tk (i := 6) rfl rfl rfl (B rfl) (heldAll (freeMove rfl (E rfl rfl))) ?_
    refine AWH.tk (i := 9) rfl rfl rfl (B rfl) (heldAll (freeField rfl fo_23_2 (E rfl rfl))) ?_
    refine AWH.tk (i := 10) rfl rfl rfl (B rfl) (heldLoad rfl ag_3 (E rfl rfl) rfl) ?_
    refine AWH.tk (i := 11) rfl rfl rfl (B rfl) (heldAll (freeField rfl fo_23_1 (E rfl rfl))) ?_
    refine AWH.tk (i := 12) rfl rfl rfl (B rfl) (heldLoad rfl ag_3 (E rfl rfl) rfl) ?_
    refine AWH.two (i := 5) (j := 7) (by kernel_rfl) rfl rfl ?_ ?_
    ·
     refine AWL.call rfl rfl (B rfl) rfl ce_27 (E rfl rfl) (evsC (E rfl rfl) (evsC (E rfl rfl) (evsC (E rfl rfl) (evsC (E rfl rfl) evs0)))) (S1 := CB _ _ _ _) (S2 := [_]) rfl (rex34 _ _ _ _ _ _ _) ?_
     rintro t39 S39 ⟨rfl, A39, c39, rfl⟩
     refine tb 2 rfl ?_
     refine AWH.one (i := 7) (by kernel_rfl) rfl ?_
     refine AWL.buildSlice1 rfl rfl (B rfl) rfl el_43 rfl (evsC (E rfl rfl) evs0) (Nat.le_of_ble_eq_true rfl) rfl rfl ?_
     refine tb 2 rfl ?_
     refine AWH.one (i := 8) (by kernel_rfl) rfl ?_
     refine AWL.call rfl rfl (B rfl) rfl ce_28 (E rfl rfl) (evsC (E rfl rfl) (evsC (E rfl rfl) evs0)) (S1 := CB _ _ _ _) (S2 := [_]) rfl (put35 _ _ _ _ [_]) ?_
     rintro t42 S42 ⟨rfl, A42, c42, rfl⟩
     refine tb 2 rfl ?_
     refine AWH.one (i := 13) (by kernel_rfl) rfl ?_
     refine AWL.call rfl rfl (B rfl) rfl ce_29 (E rfl rfl) (evsC (E rfl rfl) (evsC (E rfl rfl) (evsC (E rfl rfl) evs0))) (S1 := CB _ _ _ _) (S2 := [_]) rfl (two36 _ _ _ _ _ _) ?_
     rintro t47 S47 ⟨rfl, A47, c47, rfl⟩
     refine tb 2 rfl ?_
     refine AWH.done (by kernel_rfl) ?_
     refine AW.rseq ?_
     refine AWL.y rfl rfl (B rfl) (Yv.move rfl (E rfl rfl)) ?_
     refine AWL.y rfl rfl (B rfl) (Yv.nilChk rfl (E rfl rfl)) ?_
     refine AWL.y rfl rfl (B rfl) (Yv.fieldBox rfl fo_49_0 (E rfl rfl)) ?_
     refine AWL.y rfl rfl (B rfl) (Yv.loadBox rfl ag_24 (i := 1) rfl (E rfl rfl) rfl) ?_
     refine AWL.y rfl rfl (B rfl) (Yv.assign rfl (E rfl rfl)) ?_
     refine AWL.y rfl rfl (B rfl) (Yv.assign rfl (E rfl rfl)) ?_
     refine AWL.nil ?_
     refine AW.drop (List.take_sublist 1 _) ?_
     refine AW.ret (retI (.tmp rfl (.tmp rfl .nil)) ?_)
     rw [if_pos hval]
     refine enc_end ?_
     rw [enc0 (by rw [h11t]; rfl)]
     skip
     try simp only [List.append_assoc]
     rfl
    ·
     refine AWL.buildSlice1 rfl rfl (B rfl) rfl el_43 rfl (evsC (E rfl rfl) evs0) (Nat.le_of_ble_eq_true rfl) rfl rfl ?_
     refine tb 2 rfl ?_
     refine AWH.one (i := 5) (by kernel_rfl) rfl ?_
     refine AWL.call rfl rfl (B rfl) rfl ce_27 (E rfl rfl) (evsC (E rfl rfl) (evsC (E rfl rfl) (evsC (E rfl rfl) (evsC (E rfl rfl) evs0)))) (S1 := CB _ _ _ _) (S2 := [_]) rfl (rex34 _ _ _ _ _ _ _) ?_
     rintro t39 S39 ⟨rfl, A39, c39, rfl⟩
     refine tb 2 rfl ?_
     refine AWH.one (i := 8) (by kernel_rfl) rfl ?_
     refine AWL.call rfl rfl (B rfl) rfl ce_28 (E rfl rfl) (evsC (E rfl rfl) (evsC (E rfl rfl) evs0)) (S1 := CB _ _ _ _) (S2 := [_]) rfl (put35 _ _ _ _ [_]) ?_
     rintro t42 S42 ⟨rfl, A42, c42, rfl⟩
     refine tb 2 rfl ?_
     refine AWH.one (i := 13) (by kernel_rfl) rfl ?_
     refine AWL.call rfl rfl (B rfl) rfl ce_29 (E rfl rfl) (evsC (E rfl rfl) (evsC (E rfl rfl) (evsC (E rfl rfl) evs0))) (S1 := CB _ _ _ _) (S2 := [_]) rfl (two36 _ _ _ _ _ _) ?_
     rintro t47 S47 ⟨rfl, A47, c47, rfl⟩
     refine tb 2 rfl ?_
     refine AWH.done (by kernel_rfl) ?_
     refine AW.rseq ?_
     refine AWL.y rfl rfl (B rfl) (Yv.move rfl (E rfl rfl)) ?_
     refine AWL.y rfl rfl (B rfl) (Yv.nilChk rfl (E rfl rfl)) ?_
     refine AWL.y rfl rfl (B rfl) (Yv.fieldBox rfl fo_49_0 (E rfl rfl)) ?_
     refine AWL.y rfl rfl (B rfl) (Yv.loadBox rfl ag_24 (i := 1) rfl (E rfl rfl) rfl) ?_
     refine AWL.y rfl rfl (B rfl) (Yv.assign rfl (E rfl rfl)) ?_
     refine AWL.y rfl rfl (B rfl) (Yv.assign rfl (E rfl rfl)) ?_
     refine AWL.nil ?_
     refine AW.drop (List.take_sublist 1 _) ?_
     refine AW.ret (retI (.tmp rfl (.tmp rfl .nil)) ?_)
     rw [if_pos hval]
     refine enc_end ?_
     rw [enc0 (by rw [h11t]; rfl)]
     skip
     try simp only [List.append_assoc]
     rfl
   · exfalso; replace h12f := of_decide_eq_false h12f; omega
  try replace h11f := of_decide_eq_false h11f
  refine AW.rseq ?_
  refine AWL.y rfl rfl (B rfl) (Yv.eql rfl (E rfl rfl) (E rfl rfl)) ?_
  refine AWL.y rfl rfl (B rfl) (Yv.assign rfl (E rfl rfl)) ?_
  refine AWL.nil ?_
  refine AW.cond rfl (fun h13t => ?_) (fun h13f => ?_)
  ·
   try replace h13t := of_decide_eq_true h13t
   refine AW.skip ?_
   refine AW.cond rfl (fun h14t => ?_) (fun h14f => ?_)
   ·
    try replace h14t := of_decide_eq_true h14t
    refine AW.regionH (HeldBox b1 (insVals i)) rfl (tells_box (k := 2) rfl) ?_
    refine AWH.tk (i := 0) rfl rfl rfl (B rfl) (heldAll (freeMove rfl (E rfl rfl))) ?_
    refine AWH.tk (i := 1) rfl rfl rfl (B rfl) (heldAll (freeField rfl fo_23_2 (E rfl rfl))) ?_
    refine AWH.tk (i := 2) rfl rfl rfl (B rfl) (heldLoad rfl ag_3 (E rfl rfl) rfl) ?_
    refine AWH.tk (i := 3) rfl rfl rfl (B rfl) (heldAll (freeField rfl fo_23_1 (E rfl rfl))) ?_
    refine AWH.tk (i := 4) rfl rfl rfl (B rfl) (heldLoad rfl ag_3 (E rfl rfl) rfl) ?_
    refine AWH.tk (i := 6) rfl rfl rfl (B rfl) (heldAll (freeMove rfl (E rfl rfl))) ?_
    refine AWH.tk (i := 9) rfl rfl rfl (B rfl) (heldAll (freeField rfl fo_23_2 (E rfl rfl))) ?_
    refine AWH.tk (i := 10) rfl rfl rfl (B rfl) (heldLoad rfl ag_3 (E rfl rfl) rfl) ?_
    refine AWH.tk (i := 11) rfl rfl rfl (B rfl) (heldAll (freeField rfl fo_23_1 (E rfl rfl))) ?_
    refine AWH.tk (i := 12) rfl rfl rfl (B rfl) (heldLoad rfl ag_3 (E rfl rfl) rfl) ?_
    refine AWH.two (i := 5) (j := 7) (by kernel_rfl) rfl rfl ?_ ?_
    ·
     refine AWL.call rfl rfl (B rfl) rfl ce_27 (E rfl rfl) (evsC (E rfl rfl) (evsC (E rfl rfl) (evsC (E rfl rfl) (evsC (E rfl rfl) evs0)))) (S1 := CB _ _ _ _) (S2 := [_]) rfl (rex34 _ _ _ _ _ _ _) ?_
     rintro t39 S39 ⟨rfl, A39, c39, rfl⟩
     refine tb 2 rfl ?_
     refine AWH.one (i := 7) (by kernel_rfl) rfl ?_
     refine AWL.buildSlice1 rfl rfl (B rfl) rfl el_43 rfl (evsC (E rfl rfl) evs0) (Nat.le_of_ble_eq_true rfl) rfl rfl ?_
     refine tb 2 rfl ?_
     refine AWH.one (i := 8) (by kernel_rfl) rfl ?_
     refine AWL.call rfl rfl (B rfl) rfl ce_28 (E rfl rfl) (evsC (E rfl rfl) (evsC (E rfl rfl) evs0)) (S1 := CB _ _ _ _) (S2 := [_]) rfl (put35 _ _ _ _ [_]) ?_
     rintro t42 S42 ⟨rfl, A42, c42, rfl⟩
     refine tb 2 rfl ?_
     refine AWH.one (i := 13) (by kernel_rfl) rfl ?_
     refine AWL.call rfl rfl (B rfl) rfl ce_29 (E rfl rfl) (evsC (E rfl rfl) (evsC (E rfl rfl) (evsC (E rfl rfl) evs0))) (S1 := CB _ _ _ _) (S2 := [_]) rfl (two36 _ _ _ _ _ _) ?_
     rintro t47 S47 ⟨rfl, A47, c47, rfl⟩
     refine tb 2 rfl ?_
     refine AWH.done (by kernel_rfl) ?_
     refine AW.rseq ?_
     refine AWL.y rfl rfl (B rfl) (Yv.move rfl (E rfl rfl)) ?_
     refine AWL.y rfl rfl (B rfl) (Yv.nilChk rfl (E rfl rfl)) ?_
     refine AWL.y rfl rfl (B rfl) (Yv.fieldBox rfl fo_49_0 (E rfl rfl)) ?_
     refine AWL.y rfl rfl (B rfl) (Yv.loadBox rfl ag_24 (i := 1) rfl (E rfl rfl) rfl) ?_
     refine AWL.y rfl rfl (B rfl) (Yv.assign rfl (E rfl rfl)) ?_
     refine AWL.y rfl rfl (B rfl) (Yv.assign rfl (E rfl rfl)) ?_
     refine AWL.nil ?_
     refine AW.drop (List.take_sublist 1 _) ?_
     refine AW.ret (retI (.tmp rfl (.tmp rfl .nil)) ?_)
     rw [if_pos hval]
     refine enc_end ?_
     rw [enc0 (by rw [h13t]; rfl)]
     skip
     try simp only [List.append_assoc]
     rfl
    ·
     refine AWL.buildSlice1 rfl rfl (B rfl) rfl el_43 rfl (evsC (E rfl rfl) evs0) (Nat.le_of_ble_eq_true rfl) rfl rfl ?_
     refine tb 2 rfl ?_
     refine AWH.one (i := 5) (by kernel_rfl) rfl ?_
     refine AWL.call rfl rfl (B rfl) rfl ce_27 (E rfl rfl) (evsC (E rfl rfl) (evsC (E rfl rfl) (evsC (E rfl rfl) (evsC (E rfl rfl) evs0)))) (S1 := CB _ _ _ _) (S2 := [_]) rfl (rex34 _ _ _ _ _ _ _) ?_
     rintro t39 S39 ⟨rfl, A39, c39, rfl⟩
     refine tb 2 rfl ?_
     refine AWH.one (i := 8) (by kernel_rfl) rfl ?_
     refine AWL.call rfl rfl (B rfl) rfl ce_28 (E rfl rfl) (evsC (E rfl rfl) (evsC (E rfl rfl) evs0)) (S1 := CB _ _ _ _) (S2 := [_]) rfl (put35 _ _ _ _ [_]) ?_
     rintro t42 S42 ⟨rfl, A42, c42, rfl⟩
     refine tb 2 rfl ?_
     refine AWH.one (i := 13) (by kernel_rfl) rfl ?_
     refine AWL.call rfl rfl (B rfl) rfl ce_29 (E rfl rfl) (evsC (E rfl rfl) (evsC (E rfl rfl) (evsC (E rfl rfl) evs0))) (S1 := CB _ _ _ _) (S2 := [_]) rfl (two36 _ _ _ _ _ _) ?_
     rintro t47 S47 ⟨rfl, A47, c47, rfl⟩
     refine tb 2 rfl ?_
     refine AWH.done (by kernel_rfl) ?_
     refine AW.rseq ?_
     refine AWL.y rfl rfl (B rfl) (Yv.move rfl (E rfl rfl)) ?_
     refine AWL.y rfl rfl (B rfl) (Yv.nilChk rfl (E rfl rfl)) ?_
     refine AWL.y rfl rfl (B rfl) (Yv.fieldBox rfl fo_49_0 (E rfl rfl)) ?_
     refine AWL.y rfl rfl (B rfl) (Yv.loadBox rfl ag_24 (i := 1) rfl (E rfl rfl) rfl) ?_
     refine AWL.y rfl rfl (B rfl) (Yv.assign rfl (E rfl rfl)) ?_
     refine AWL.y rfl rfl (B rfl) (Yv.assign rfl (E rfl rfl)) ?_
     refine AWL.nil ?_
     refine AW.drop (List.take_sublist 1 _) ?_
     refine AW.ret (retI (.tmp rfl (.tmp rfl .nil)) ?_)
     rw [if_pos hval]
     refine enc_end ?_
     rw [enc0 (by rw [h13t]; rfl)]
     skip
     try simp only [List.append_assoc]
     rfl
   · exfalso; replace h14f := of_decide_eq_false h14f; omega
  try replace h13f := of_decide_eq_false h13f
  refine AW.rseq ?_
  refine AWL.y rfl rfl (B rfl) (Yv.eql rfl (E rfl rfl) (E rfl rfl)) ?_
  refine AWL.y rfl rfl (B rfl) (Yv.assign rfl (E rfl rfl)) ?_
  refine AWL.nil ?_
  refine AW.cond rfl (fun h15t => ?_) (fun h15f => ?_)
  ·
   try replace h15t := of_decide_eq_true h15t
   refine AW.skip ?_
   refine AW.cond rfl (fun h16t => ?_) (fun h16f => ?_)
   ·
    try replace h16t := of_decide_eq_true h16t
    refine AW.regionH (HeldBox b1 (insVals i)) rfl (tells_box (k := 2) rfl) ?_
    refine AWH.tk (i := 0) rfl rfl rfl (B rfl) (heldAll (freeMove rfl (E rfl rfl))) ?_
    refine AWH.tk (i := 1) rfl rfl rfl (B rfl) (heldAll (freeField rfl fo_23_2 (E rfl rfl))) ?_
    refine AWH.tk (i := 2) rfl rfl rfl (B rfl) (heldLoad rfl ag_3 (E rfl rfl) rfl) ?_
    refine AWH.tk (i := 3) rfl rfl rfl (B rfl) (heldAll (freeField rfl fo_23_1 (E rfl rfl))) ?_
    refine AWH.tk (i := 4) rfl rfl rfl (B rfl) (heldLoad rfl ag_3 (E rfl rfl) rfl) ?_
    refine AWH.tk (i := 6) rfl rfl rfl (B rfl) (heldAll (freeMove rfl (E rfl rfl))) ?_
    refine AWH.tk (i := 9) rfl rfl rfl (B rfl) (heldAll (freeField rfl fo_23_2 (E rfl rfl))) ?_
    refine AWH.tk (i := 10) rfl rfl rfl (B rfl) (heldLoad rfl ag_3 (E rfl rfl) rfl) ?_
    refine AWH.tk (i := 11) rfl rfl rfl (B rfl) (heldAll (freeField rfl fo_23_1 (E rfl rfl))) ?_
    refine AWH.tk (i := 12) rfl rfl rfl (B rfl) (heldLoad rfl ag_3 (E rfl rfl) rfl) ?_
    refine AWH.two (i := 5) (j := 7) (by kernel_rfl) rfl rfl ?_ ?_
    ·
     refine AWL.call rfl rfl (B rfl) rfl ce_27 (E rfl rfl) (evsC (E rfl rfl) (evsC (E rfl rfl) (evsC (E rfl rfl) (evsC (E rfl rfl) evs0)))) (S1 := CB _ _ _ _) (S2 := [_]) rfl (rex34 _ _ _ _ _ _ _) ?_
     rintro t39 S39 ⟨rfl, A39, c39, rfl⟩
     refine tb 2 rfl ?_
     refine AWH.one (i := 7) (by kernel_rfl) rfl ?_
     refine AWL.buildSlice1 rfl rfl (B rfl) rfl el_43 rfl (evsC (E rfl rfl) evs0) (Nat.le_of_ble_eq_true rfl) rfl rfl ?_
     refine tb 2 rfl ?_
     refine AWH.one (i := 8) (by kernel_rfl) rfl ?_
     refine AWL.call rfl rfl (B rfl) rfl ce_28 (E rfl rfl) (evsC (E rfl rfl) (evsC (E rfl rfl) evs0)) (S1 := CB _ _ _ _) (S2 := [_]) rfl (put35 _ _ _ _ [_]) ?_
     rintro t42 S42 ⟨rfl, A42, c42, rfl⟩
     refine tb 2 rfl ?_
     refine AWH.one (i := 13) (by kernel_rfl) rfl ?_
     refine AWL.call rfl rfl (B rfl) rfl ce_29 (E rfl rfl) (evsC (E rfl rfl) (evsC (E rfl rfl) (evsC (E rfl rfl) evs0))) (S1 := CB _ _ _ _) (S2 := [_]) rfl (two36 _ _ _ _ _ _) ?_
     rintro t47 S47 ⟨rfl, A47, c47, rfl⟩
     refine tb 2 rfl ?_
     refine AWH.done (by kernel_rfl) ?_
     refine AW.rseq ?_
     refine AWL.y rfl rfl (B rfl) (Yv.move rfl (E rfl rfl)) ?_
     refine AWL.y rfl rfl (B rfl) (Yv.nilChk rfl (E rfl rfl)) ?_
     refine AWL.y rfl rfl (B rfl) (Yv.fieldBox rfl fo_49_0 (E rfl rfl)) ?_
     refine AWL.y rfl rfl (B rfl) (Yv.loadBox rfl ag_24 (i := 1) rfl (E rfl rfl) rfl) ?_
     refine AWL.y rfl rfl (B rfl) (Yv.assign rfl (E rfl rfl)) ?_
     refine AWL.y rfl rfl (B rfl) (Yv.assign rfl (E rfl rfl)) ?_
     refine AWL.nil ?_
     refine AW.drop (List.take_sublist 1 _) ?_
     refine AW.ret (retI (.tmp rfl (.tmp rfl .nil)) ?_)
     rw [if_pos hval]
     refine enc_end ?_
     rw [enc0 (by rw [h15t]; rfl)]
     skip
     try simp only [List.append_assoc]
     rfl
    ·
     refine AWL.buildSlice1 rfl rfl (B rfl) rfl el_43 rfl (evsC (E rfl rfl) evs0) (Nat.le_of_ble_eq_true rfl) rfl rfl ?_
     refine tb 2 rfl ?_
     refine AWH.one (i := 5) (by kernel_rfl) rfl ?_
     refine AWL.call rfl rfl (B rfl) rfl ce_27 (E rfl rfl) (evsC (E rfl rfl) (evsC (E rfl rfl) (evsC (E rfl rfl) (evsC (E rfl rfl) evs0)))) (S1 := CB _ _ _ _) (S2 := [_]) rfl (rex34 _ _ _ _ _ _ _) ?_
     rintro t39 S39 ⟨rfl, A39, c39, rfl⟩
     refine tb 2 rfl ?_
     refine AWH.one (i := 8) (by kernel_rfl) rfl ?_
     refine AWL.call rfl rfl (B rfl) rfl ce_28 (E rfl rfl) (evsC (E rfl rfl) (evsC (E rfl rfl) evs0)) (S1 := CB _ _ _ _) (S2 := [_]) rfl (put35 _ _ _ _ [_]) ?_
     rintro t42 S42 ⟨rfl, A42, c42, rfl⟩
     refine tb 2 rfl ?_
     refine AWH.one (i := 13) (by kernel_rfl) rfl ?_
     refine AWL.call rfl rfl (B rfl) rfl ce_29 (E rfl rfl) (evsC (E rfl rfl) (evsC (E rfl rfl) (evsC (E rfl rfl) evs0))) (S1 := CB _ _ _ _) (S2 := [_]) rfl (two36 _ _ _ _ _ _) ?_
     rintro t47 S47 ⟨rfl, A47, c47, rfl⟩
     refine tb 2 rfl ?_
     refine AWH.done (by kernel_rfl) ?_
     refine AW.rseq ?_
     refine AWL.y rfl rfl (B rfl) (Yv.move rfl (E rfl rfl)) ?_
     refine AWL.y rfl rfl (B rfl) (Yv.nilChk rfl (E rfl rfl)) ?_
     refine AWL.y rfl rfl (B rfl) (Yv.fieldBox rfl fo_49_0 (E rfl rfl)) ?_
     refine AWL.y rfl rfl (B rfl) (Yv.loadBox rfl ag_24 (i := 1) rfl (E rfl rfl) rfl) ?_
     refine AWL.y rfl rfl (B rfl) (Yv.assign rfl (E rfl rfl)) ?_
     refine AWL.y rfl rfl (B rfl) (Yv.assign rfl (E rfl rfl)) ?_
     refine AWL.nil ?_
     refine AW.drop (List.take_sublist 1 _) ?_
     refine AW.ret (retI (.tmp rfl (.tmp rfl .nil)) ?_)
     rw [if_pos hval]
     refine enc_end ?_
     rw [enc0 (by rw [h15t]; rfl)]
     skip
     try simp only [List.append_assoc]
     rfl
   · exfalso; replace h16f := of_decide_eq_false h16f; omega
  try replace h15f := of_decide_eq_false h15f
  refine AW.rseq ?_
  refine AWL.y rfl rfl (B rfl) (Yv.eql rfl (E rfl rfl) (E rfl rfl)) ?_
  refine AWL.y rfl rfl (B rfl) (Yv.assign rfl (E rfl rfl)) ?_
  refine AWL.nil ?_
  refine AW.cond rfl (fun h17t => ?_) (fun h17f => ?_)
  ·
   try replace h17t := of_decide_eq_true h17t
   refine AW.skip ?_
   refine AW.cond rfl (fun h18t => ?_) (fun h18f => ?_)
   ·
    try replace h18t := of_decide_eq_true h18t
    refine AW.regionH (HeldBox b1 (insVals i)) rfl (tells_box (k := 2) rfl) ?_
    refine AWH.tk (i := 0) rfl rfl rfl (B rfl) (heldAll (freeMove rfl (E rfl rfl))) ?_
    refine AWH.tk (i := 1) rfl rfl rfl (B rfl) (heldAll (freeField rfl fo_23_2 (E rfl rfl))) ?_
    refine AWH.tk (i := 2) rfl rfl rfl (B rfl) (heldLoad rfl ag_3 (E rfl rfl) rfl) ?_
    refine AWH.tk (i := 3) rfl rfl rfl (B rfl) (heldAll (freeField rfl fo_23_1 (E rfl rfl))) ?_
    refine AWH.tk (i := 4) rfl rfl rfl (B rfl) (heldLoad rfl ag_3 (E rfl rfl) rfl) ?_
    refine AWH.tk (i := 6) rfl rfl rfl (B rfl) (heldAll (freeMove rfl (E rfl rfl))) ?_
    refine AWH.tk (i := 9) rfl rfl rfl (B rfl) (heldAll (freeField rfl fo_23_2 (E rfl rfl))) ?_
    refine AWH.tk (i := 10) rfl rfl rfl (B rfl) (heldLoad rfl ag_3 (E rfl rfl) rfl) ?_
    refine AWH.tk (i := 11) rfl rfl rfl (B rfl) (heldAll (freeField rfl fo_23_1 (E rfl rfl))) ?_
    refine AWH.tk (i := 12) rfl rfl rfl (B rfl) (heldLoad rfl ag_3 (E rfl rfl) rfl) ?_
    refine AWH.two (i := 5) (j := 7) (by kernel_rfl) rfl rfl ?_ ?_
    ·
     refine AWL.call rfl rfl (B rfl) rfl ce_27 (E rfl rfl) (evsC (E rfl rfl) (evsC (E rfl rfl) (evsC (E rfl rfl) (evsC (E rfl rfl) evs0)))) (S1 := CB _ _ _ _) (S2 := [_]) rfl (rex34 _ _ _ _ _ _ _) ?_
     rintro t39 S39 ⟨rfl, A39, c39, rfl⟩
     refine tb 2 rfl ?_
     refine AWH.one (i := 7) (by kernel_rfl) rfl ?_
     refine AWL.buildSlice1 rfl rfl (B rfl) rfl el_43 rfl (evsC (E rfl rfl) evs0) (Nat.le_of_ble_eq_true rfl) rfl rfl ?_
     refine tb 2 rfl ?_
     refine AWH.one (i := 8) (by kernel_rfl) rfl ?_
     refine AWL.call rfl rfl (B rfl) rfl ce_28 (E rfl rfl) (evsC (E rfl rfl) (evsC (E rfl rfl) evs0)) (S1 := CB _ _ _ _) (S2 := [_]) rfl (put35 _ _ _ _ [_]) ?_
     rintro t42 S42 ⟨rfl, A42, c42, rfl⟩
     refine tb 2 rfl ?_
     refine AWH.one (i := 13) (by kernel_rfl) rfl ?_
     refine AWL.call rfl rfl (B rfl) rfl ce_29 (E rfl rfl) (evsC (E rfl rfl) (evsC (E rfl rfl) (evsC (E rfl rfl) evs0))) (S1 := CB _ _ _ _) (S2 := [_]) rfl (two36 _ _ _ _ _ _) ?_
     rintro t47 S47 ⟨rfl, A47, c47, rfl⟩
     refine tb 2 rfl ?_
     refine AWH.done (by kernel_rfl) ?_
     refine AW.rseq ?_
     refine AWL.y rfl rfl (B rfl) (Yv.move rfl (E rfl rfl)) ?_
     refine AWL.y rfl rfl (B rfl) (Yv.nilChk rfl (E rfl rfl)) ?_
     refine AWL.y rfl rfl (B rfl) (Yv.fieldBox rfl fo_49_0 (E rfl rfl)) ?_
     refine AWL.y rfl rfl (B rfl) (Yv.loadBox rfl ag_24 (i := 1) rfl (E rfl rfl) rfl) ?_
     refine AWL.y rfl rfl (B rfl) (Yv.assign rfl (E rfl rfl)) ?_
     refine AWL.y rfl rfl (B rfl) (Yv.assign rfl (E rfl rfl)) ?_
     refine AWL.nil ?_
     refine AW.drop (List.take_sublist 1 _) ?_
     refine AW.ret (retI (.tmp rfl (.tmp rfl .nil)) ?_)
     rw [if_pos hval]
     refine enc_end ?_
     rw [enc0 (by rw [h17t]; rfl)]
     skip
     try simp only [List.append_assoc]
     rfl
    ·
     refine AWL.buildSlice1 rfl rfl (B rfl) rfl el_43 rfl (evsC (E rfl rfl) evs0) (Nat.le_of_ble_eq_true rfl) rfl rfl ?_
     refine tb 2 rfl ?_
     refine AWH.one (i := 5) (by kernel_rfl) rfl ?_
     refine AWL.call rfl rfl (B rfl) rfl ce_27 (E rfl rfl) (evsC (E rfl rfl) (evsC (E rfl rfl) (evsC (E rfl rfl) (evsC (E rfl rfl) evs0)))) (S1 := CB _ _ _ _) (S2 := [_]) rfl (rex34 _ _ _ _ _ _ _) ?_
     rintro t39 S39 ⟨rfl, A39, c39, rfl⟩
     refine tb 2 rfl ?_
     refine AWH.one (i := 8) (by kernel_rfl) rfl ?_
     refine AWL.call rfl rfl (B rfl) rfl ce_28 (E rfl rfl) (evsC (E rfl rfl) (evsC (E rfl rfl) evs0)) (S1 := CB _ _ _ _) (S2 := [_]) rfl (put35 _ _ _ _ [_]) ?_
     rintro t42 S42 ⟨rfl, A42, c42, rfl⟩
     refine tb 2 rfl ?_
     refine AWH.one (i := 13) (by kernel_rfl) rfl ?_
     refine AWL.call rfl rfl (B rfl) rfl ce_29 (E rfl rfl) (evsC (E rfl rfl) (evsC (E rfl rfl) (evsC (E rfl rfl) evs0))) (S1 := CB _ _ _ _) (S2 := [_]) rfl (two36 _ _ _ _ _ _) ?_
     rintro t47 S47 ⟨rfl, A47, c47, rfl⟩
     refine tb 2 rfl ?_
     refine AWH.done (by kernel_rfl) ?_
     refine AW.rseq ?_
     refine AWL.y rfl rfl (B rfl) (Yv.move rfl (E rfl rfl)) ?_
     refine AWL.y rfl rfl (B rfl) (Yv.nilChk rfl (E rfl rfl)) ?_
     refine AWL.y rfl rfl (B rfl) (Yv.fieldBox rfl fo_49_0 (E rfl rfl)) ?_
     refine AWL.y rfl rfl (B rfl) (Yv.loadBox rfl ag_24 (i := 1) rfl (E rfl rfl) rfl) ?_
     refine AWL.y rfl rfl (B rfl) (Yv.assign rfl (E rfl rfl)) ?_
     refine AWL.y rfl rfl (B rfl) (Yv.assign rfl (E rfl rfl)) ?_
     refine AWL.nil ?_
     refine AW.drop (List.take_sublist 1 _) ?_
     refine AW.ret (retI (.tmp rfl (.tmp rfl .nil)) ?_)
     rw [if_pos hval]
     refine enc_end ?_
     rw [enc0 (by rw [h17t]; rfl)]
     skip
     try simp only [List.append_assoc]
     rfl
   · exfalso; replace h18f := of_decide_eq_false h18f; omega
  try replace h17f := of_decide_eq_false h17f
  refine AW.region ?_
  refine AWL.y rfl rfl (B rfl) (Yv.eql rfl (E rfl rfl) (E rfl rfl)) ?_
  refine AWL.y rfl rfl (B rfl) (Yv.assign rfl (E rfl rfl)) ?_
  refine AWL.nil ?_
  refine AW.cond rfl (fun h19t => ?_) (fun h19f => ?_)
  ·
   try replace h19t := of_decide_eq_true h19t
   refine AW.regionH (HeldBox b1 (insVals i)) rfl (tells_box (k := 2) rfl) ?_
   refine AWH.tk (i := 0) rfl rfl rfl (B rfl) (heldAll (freeMove rfl (E rfl rfl))) ?_
   refine AWH.tk (i := 1) rfl rfl rfl (B rfl) (heldAll (freeField rfl fo_23_2 (E rfl rfl))) ?_
   refine AWH.tk (i := 2) rfl rfl rfl (B rfl) (heldLoad rfl ag_3 (E rfl rfl) rfl) ?_
   refine AWH.tk (i := 3) rfl rfl rfl (B rfl) (heldAll (freeField rfl fo_23_1 (E rfl rfl))) ?_
   refine AWH.tk (i := 4) rfl rfl rfl (B rfl) (heldLoad rfl ag_3 (E rfl rfl) rfl) ?_
   refine AWH.tk (i := 6) rfl rfl rfl (B rfl) (heldAll (freeMove rfl (E rfl rfl))) ?_
   refine AWH.tk (i := 9) rfl rfl rfl (B rfl) (heldAll (freeField rfl fo_23_2 (E rfl rfl))) ?_
   refine AWH.tk (i := 10) rfl rfl rfl (B rfl) (heldLoad rfl ag_3 (E rfl rfl) rfl) ?_
   refine AWH.tk (i := 11) rfl rfl rfl (B rfl) (heldAll (freeField rfl fo_23_1 (E rfl rfl))) ?_
   refine AWH.tk (i := 12) rfl rfl rfl (B rfl) (heldLoad rfl ag_3 (E rfl rfl) rfl) ?_
   refine AWH.two (i := 5) (j := 7) (by kernel_rfl) rfl rfl ?_ ?_
   ·
    refine AWL.call rfl rfl (B rfl) rfl ce_27 (E rfl rfl) (evsC (E rfl rfl) (evsC (E rfl rfl) (evsC (E rfl rfl) (evsC (E rfl rfl) evs0)))) (S1 := CB _ _ _ _) (S2 := [_]) rfl (rex34 _ _ _ _ _ _ _) ?_
    rintro t39 S39 ⟨rfl, A39, c39, rfl⟩
    refine tb 2 rfl ?_
    refine AWH.one (i := 7) (by kernel_rfl) rfl ?_
    refine AWL.buildSlice1 rfl rfl (B rfl) rfl el_43 rfl (evsC (E rfl rfl) evs0) (Nat.le_of_ble_eq_true rfl) rfl rfl ?_
    refine tb 2 rfl ?_
    refine AWH.one (i := 8) (by kernel_rfl) rfl ?_
    refine AWL.call rfl rfl (B rfl) rfl ce_28 (E rfl rfl) (evsC (E rfl rfl) (evsC (E rfl rfl) evs0)) (S1 := CB _ _ _ _) (S2 := [_]) rfl (put35 _ _ _ _ [_]) ?_
    rintro t42 S42 ⟨rfl, A42, c42, rfl⟩
    refine tb 2 rfl ?_
    refine AWH.one (i := 13) (by kernel_rfl) rfl ?_
    refine AWL.call rfl rfl (B rfl) rfl ce_29 (E rfl rfl) (evsC (E rfl rfl) (evsC (E rfl rfl) (evsC (E rfl rfl) evs0))) (S1 := CB _ _ _ _) (S2 := [_]) rfl (two36 _ _ _ _ _ _) ?_
    rintro t47 S47 ⟨rfl, A47, c47, rfl⟩
    refine tb 2 rfl ?_
    refine AWH.done (by kernel_rfl) ?_
    refine AW.rseq ?_
    refine AWL.y rfl rfl (B rfl) (Yv.move rfl (E rfl rfl)) ?_
    refine AWL.y rfl rfl (B rfl) (Yv.nilChk rfl (E rfl rfl)) ?_
    refine AWL.y rfl rfl (B rfl) (Yv.fieldBox rfl fo_49_0 (E rfl rfl)) ?_
    refine AWL.y rfl rfl (B rfl) (Yv.loadBox rfl ag_24 (i := 1) rfl (E rfl rfl) rfl) ?_
    refine AWL.y rfl rfl (B rfl) (Yv.assign rfl (E rfl rfl)) ?_
    refine AWL.y rfl rfl (B rfl) (Yv.assign rfl (E rfl rfl)) ?_
    refine AWL.nil ?_
    refine AW.drop (List.take_sublist 1 _) ?_
    refine AW.ret (retI (.tmp rfl (.tmp rfl .nil)) ?_)
    rw [if_pos hval]
    refine enc_end ?_
    rw [enc0 (by rw [h19t]; rfl)]
    skip
    try simp only [List.append_assoc]
    rfl
   ·
    refine AWL.buildSlice1 rfl rfl (B rfl) rfl el_43 rfl (evsC (E rfl rfl) evs0) (Nat.le_of_ble_eq_true rfl) rfl rfl ?_
    refine tb 2 rfl ?_
    refine AWH.one (i := 5) (by kernel_rfl) rfl ?_
    refine AWL.call rfl rfl (B rfl) rfl ce_27 (E rfl rfl) (evsC (E rfl rfl) (evsC (E rfl rfl) (evsC (E rfl rfl) (evsC (E rfl rfl) evs0)))) (S1 := CB _ _ _ _) (S2 := [_]) rfl (rex34 _ _ _ _ _ _ _) ?_
    rintro t39 S39 ⟨rfl, A39, c39, rfl⟩
    refine tb 2 rfl ?_
    refine AWH.one (i := 8) (by kernel_rfl) rfl ?_
    refine AWL.call rfl rfl (B rfl) rfl ce_28 (E rfl rfl) (evsC (E rfl rfl) (evsC (E rfl rfl) evs0)) (S1 := CB _ _ _ _) (S2 := [_]) rfl (put35 _ _ _ _ [_]) ?_
    rintro t42 S42 ⟨rfl, A42, c42, rfl⟩
    refine tb 2 rfl ?_
    refine AWH.one (i := 13) (by kernel_rfl) rfl ?_
    refine AWL.call rfl rfl (B rfl) rfl ce_29 (E rfl rfl) (evsC (E rfl rfl) (evsC (E rfl rfl) (evsC (E rfl rfl) evs0))) (S1 := CB _ _ _ _) (S2 := [_]) rfl (two36 _ _ _ _ _ _) ?_
    rintro t47 S47 ⟨rfl, A47, c47, rfl⟩
    refine tb 2 rfl ?_
    refine AWH.done (by kernel_rfl) ?_
    refine AW.rseq ?_
    refine AWL.y rfl rfl (B rfl) (Yv.move rfl (E rfl rfl)) ?_
    refine AWL.y rfl rfl (B rfl) (Yv.nilChk rfl (E rfl rfl)) ?_
    refine AWL.y rfl rfl (B rfl) (Yv.fieldBox rfl fo_49_0 (E rfl rfl)) ?_
    refine AWL.y rfl rfl (B rfl) (Yv.loadBox rfl ag_24 (i := 1) rfl (E rfl rfl) rfl) ?_
    refine AWL.y rfl rfl (B rfl) (Yv.assign rfl (E rfl rfl)) ?_
    refine AWL.y rfl rfl (B rfl) (Yv.assign rfl (E rfl rfl)) ?_
    refine AWL.nil ?_
    refine AW.drop (List.take_sublist 1 _) ?_
    refine AW.ret (retI (.tmp rfl (.tmp rfl .nil)) ?_)
    rw [if_pos hval]
    refine enc_end ?_
    rw [enc0 (by rw [h19t]; rfl)]
    skip
    try simp only [List.append_assoc]
    rfl
  try replace h19f := of_decide_eq_false h19f
  refine AW.seq ?_
  refine AW.rseq ?_
  refine AWL.y rfl rfl (B rfl) (Yv.eql rfl (E rfl rfl) (E rfl rfl)) ?_
  refine AWL.y rfl rfl (B rfl) (Yv.assign rfl (E rfl rfl)) ?_
  refine AWL.nil ?_
  refine AW.cond rfl (fun h20t => ?_) (fun h20f => ?_)
  ·
   try replace h20t := of_decide_eq_true h20t
   refine AW.skip ?_
   refine AW.cond rfl (fun h21t => ?_) (fun h21f => ?_)
   ·
    try replace h21t := of_decide_eq_true h21t
    refine AW.regionH (HeldBox b1 (insVals i)) rfl (tells_box (k := 2) rfl) ?_
    refine AWH.tk (i := 0) rfl rfl rfl (B rfl) (heldAll (freeMove rfl (E rfl rfl))) ?_
    refine AWH.tk (i := 1) rfl rfl rfl (B rfl) (heldAll (freeField rfl fo_23_1 (E rfl rfl))) ?_
    refine AWH.tk (i := 2) rfl rfl rfl (B rfl) (heldLoad rfl ag_3 (E rfl rfl) rfl) ?_
    refine AWH.tk (i := 4) rfl rfl rfl (B rfl) (heldAll (freeMove rfl (E rfl rfl))) ?_
    refine AWH.tk (i := 7) rfl rfl rfl (B rfl) (heldAll (freeMove rfl (E rfl rfl))) ?_
    refine AWH.tk (i := 8) rfl rfl rfl (B rfl) (heldAll (freeField rfl fo_23_1 (E rfl rfl))) ?_
    refine AWH.tk (i := 9) rfl rfl rfl (B rfl) (heldLoad rfl ag_3 (E rfl rfl) rfl) ?_
    refine AWH.tk (i := 11) rfl rfl rfl (B rfl) (heldAll (freeField rfl fo_23_5 (E rfl rfl))) ?_
    refine AWH.tk (i := 12) rfl rfl rfl (B rfl) (heldLoad rfl ag_2 (E rfl rfl) rfl) ?_
    refine AWH.two (i := 3) (j := 5) (by kernel_rfl) rfl rfl ?_ ?_
    ·
     refine AWL.call rfl rfl (B rfl) rfl ce_27 (E rfl rfl) (evsC (E rfl rfl) (evsC (E rfl rfl) (evsC (E rfl rfl) (evsC (E rfl rfl) evs0)))) (S1 := CB _ _ _ _) (S2 := [_]) rfl (rex34 _ _ _ _ _ _ _) ?_
     rintro t58 S58 ⟨rfl, A58, c58, rfl⟩
     refine tb 2 rfl ?_
     refine AWH.one (i := 5) (by kernel_rfl) rfl ?_
     refine AWL.buildSlice1 rfl rfl (B rfl) rfl el_43 rfl (evsC (E rfl rfl) evs0) (Nat.le_of_ble_eq_true rfl) rfl rfl ?_
     refine tb 2 rfl ?_
     refine AWH.one (i := 6) (by kernel_rfl) rfl ?_
     refine AWL.call rfl rfl (B rfl) rfl ce_28 (E rfl rfl) (evsC (E rfl rfl) (evsC (E rfl rfl) evs0)) (S1 := CB _ _ _ _) (S2 := [_]) rfl (put35 _ _ _ _ [_]) ?_
     rintro t61 S61 ⟨rfl, A61, c61, rfl⟩
     refine tb 2 rfl ?_
     refine AWH.one (i := 10) (by kernel_rfl) rfl ?_
     refine AWL.call rfl rfl (B rfl) rfl ce_29 (E rfl rfl) (evsC (E rfl rfl) (evsC (E rfl rfl) (evsC (E rfl rfl) evs0))) (S1 := CB _ _ _ _) (S2 := [_]) rfl (two36 _ _ _ _ _ _) ?_
     rintro t65 S65 ⟨rfl, A65, c65, rfl⟩
     refine tb 2 rfl ?_
     refine AWH.one (i := 13) (by kernel_rfl) rfl ?_
     refine AWL.call rfl rfl (B rfl) rfl ce_30 (E rfl rfl) (evsC (E rfl rfl) (evsC (E rfl rfl) (evsC (E rfl rfl) evs0))) (S1 := CB _ _ _ _) (S2 := [_]) rfl (imm37 _ _ _ _ _ 4) ?_
     rintro t68 S68 ⟨rfl, A68, c68, rfl⟩
     refine tb 2 rfl ?_
     refine AWH.done (by kernel_rfl) ?_
     refine AW.rseq ?_
     refine AWL.y rfl rfl (B rfl) (Yv.move rfl (E rfl rfl)) ?_
     refine AWL.y rfl rfl (B rfl) (Yv.nilChk rfl (E rfl rfl)) ?_
     refine AWL.y rfl rfl (B rfl) (Yv.fieldBox rfl fo_49_0 (E rfl rfl)) ?_
     refine AWL.y rfl rfl (B rfl) (Yv.loadBox rfl ag_24 (i := 1) rfl (E rfl rfl) rfl) ?_
     refine AWL.y rfl rfl (B rfl) (Yv.assign rfl (E rfl rfl)) ?_
     refine AWL.y rfl rfl (B rfl) (Yv.assign rfl (E rfl rfl)) ?_
     refine AWL.nil ?_
     refine AW.drop (List.take_sublist 1 _) ?_
     refine AW.ret (retI (.tmp rfl (.tmp rfl .nil)) ?_)
     rw [if_pos hval]
     refine enc_end ?_
     rw [enc1 (by rw [h20t]; rfl)]
     skip
     try simp only [List.append_assoc]
     rfl
    ·
     refine AWL.buildSlice1 rfl rfl (B rfl) rfl el_43 rfl (evsC (E rfl rfl) evs0) (Nat.le_of_ble_eq_true rfl) rfl rfl ?_
     refine tb 2 rfl ?_
     refine AWH.one (i := 3) (by kernel_rfl) rfl ?_
     refine AWL.call rfl rfl (B rfl) rfl ce_27 (E rfl rfl) (evsC (E rfl rfl) (evsC (E rfl rfl) (evsC (E rfl rfl) (evsC (E rfl rfl) evs0)))) (S1 := CB _ _ _ _) (S2 := [_]) rfl (rex34 _ _ _ _ _ _ _) ?_
     rintro t58 S58 ⟨rfl, A58, c58, rfl⟩
     refine tb 2 rfl ?_
     refine AWH.one (i := 6) (by kernel_rfl) rfl ?_
     refine AWL.call rfl rfl (B rfl) rfl ce_28 (E rfl rfl) (evsC (E rfl rfl) (evsC (E rfl rfl) evs0)) (S1 := CB _ _ _ _) (S2 := [_]) rfl (put35 _ _ _ _ [_]) ?_
     rintro t61 S61 ⟨rfl, A61, c61, rfl⟩
     refine tb 2 rfl ?_
     refine AWH.one (i := 10) (by kernel_rfl) rfl ?_
     refine AWL.call rfl rfl (B rfl) rfl ce_29 (E rfl rfl) (evsC (E rfl rfl) (evsC (E rfl rfl) (evsC (E rfl rfl) evs0))) (S1 := CB _ _ _ _) (S2 := [_]) rfl (two36 _ _ _ _ _ _) ?_
     rintro t65 S65 ⟨rfl, A65, c65, rfl⟩
     refine tb 2 rfl ?_
     refine AWH.one (i := 13) (by kernel_rfl) rfl ?_
     refine AWL.call rfl rfl (B rfl) rfl ce_30 (E rfl rfl) (evsC (E rfl rfl) (evsC (E rfl rfl) (evsC (E rfl rfl) evs0))) (S1 := CB _ _ _ _) (S2 := [_]) rfl (imm37 _ _ _ _ _ 4) ?_
     rintro t68 S68 ⟨rfl, A68, c68, rfl⟩
     refine tb 2 rfl ?_
     refine AWH.done (by kernel_rfl) ?_
     refine AW.rseq ?_
     refine AWL.y rfl rfl (B rfl) (Yv.move rfl (E rfl rfl)) ?_
     refine AWL.y rfl rfl (B rfl) (Yv.nilChk rfl (E rfl rfl)) ?_
     refine AWL.y rfl rfl (B rfl) (Yv.fieldBox rfl fo_49_0 (E rfl rfl)) ?_
     refine AWL.y rfl rfl (B rfl) (Yv.loadBox rfl ag_24 (i := 1) rfl (E rfl rfl) rfl) ?_
     refine AWL.y rfl rfl (B rfl) (Yv.assign rfl (E rfl rfl)) ?_
     refine AWL.y rfl rfl (B rfl) (Yv.assign rfl (E rfl rfl)) ?_
     refine AWL.nil ?_
     refine AW.drop (List.take_sublist 1 _) ?_
     refine AW.ret (retI (.tmp rfl (.tmp rfl .nil)) ?_)
     rw [if_pos hval]
     refine enc_end ?_
     rw [enc1 (by rw [h20t]; rfl)]
     skip
     try simp only [List.append_assoc]
     rfl
   · exfalso; replace h21f := of_decide_eq_false h21f; omega
  try replace h20f := of_decide_eq_false h20f
  refine AW.rseq ?_
  refine AWL.y rfl rfl (B rfl) (Yv.eql rfl (E rfl rfl) (E rfl rfl)) ?_
  refine AWL.y rfl rfl (B rfl) (Yv.assign rfl (E rfl rfl)) ?_
  refine AWL.nil ?_
  refine AW.cond rfl (fun h22t => ?_) (fun h22f => ?_)
  ·
   try replace h22t := of_decide_eq_true h22t
   refine AW.skip ?_
   refine AW.cond rfl (fun h23t => ?_) (fun h23f => ?_)
   ·
    try replace h23t := of_decide_eq_true h23t
    refine AW.regionH (HeldBox b1 (insVals i)) rfl (tells_box (k := 2) rfl) ?_
    refine AWH.tk (i := 0) rfl rfl rfl (B rfl) (heldAll (freeMove rfl (E rfl rfl))) ?_
    refine AWH.tk (i := 1) rfl rfl rfl (B rfl) (heldAll (freeField rfl fo_23_1 (E rfl rfl))) ?_
    refine AWH.tk (i := 2) rfl rfl rfl (B rfl) (heldLoad rfl ag_3 (E rfl rfl) rfl) ?_
    refine AWH.tk (i := 4) rfl rfl rfl (B rfl) (heldAll (freeMove rfl (E rfl rfl))) ?_
    refine AWH.tk (i := 7) rfl rfl rfl (B rfl) (heldAll (freeMove rfl (E rfl rfl))) ?_
    refine AWH.tk (i := 8) rfl rfl rfl (B rfl) (heldAll (freeField rfl fo_23_1 (E rfl rfl))) ?_
    refine AWH.tk (i := 9) rfl rfl rfl (B rfl) (heldLoad rfl ag_3 (E rfl rfl) rfl) ?_
    refine AWH.tk (i := 11) rfl rfl rfl (B rfl) (heldAll (freeField rfl fo_23_5 (E rfl rfl))) ?_
    refine AWH.tk (i := 12) rfl rfl rfl (B rfl) (heldLoad rfl ag_2 (E rfl rfl) rfl) ?_
    refine AWH.two (i := 3) (j := 5) (by kernel_rfl) rfl rfl ?_ ?_
    ·
     refine AWL.call rfl rfl (B rfl) rfl ce_27 (E rfl rfl) (evsC (E rfl rfl) (evsC (E rfl rfl) (evsC (E rfl rfl) (evsC (E rfl rfl) evs0)))) (S1 := CB _ _ _ _) (S2 := [_]) rfl (rex34 _ _ _ _ _ _ _) ?_
     rintro t58 S58 ⟨rfl, A58, c58, rfl⟩
     refine tb 2 rfl ?_
     refine AWH.one (i := 5) (by kernel_rfl) rfl ?_
     refine AWL.buildSlice1 rfl rfl (B rfl) rfl el_43 rfl (evsC (E rfl rfl) evs0) (Nat.le_of_ble_eq_true rfl) rfl rfl ?_
     refine tb 2 rfl ?_
     refine AWH.one (i := 6) (by kernel_rfl) rfl ?_
     refine AWL.call rfl rfl (B rfl) rfl ce_28 (E rfl rfl) (evsC (E rfl rfl) (evsC (E rfl rfl) evs0)) (S1 := CB _ _ _ _) (S2 := [_]) rfl (put35 _ _ _ _ [_]) ?_
     rintro t61 S61 ⟨rfl, A61, c61, rfl⟩
     refine tb 2 rfl ?_
     refine AWH.one (i := 10) (by kernel_rfl) rfl ?_
     refine AWL.call rfl rfl (B rfl) rfl ce_29 (E rfl rfl) (evsC (E rfl rfl) (evsC (E rfl rfl) (evsC (E rfl rfl) evs0))) (S1 := CB _ _ _ _) (S2 := [_]) rfl (two36 _ _ _ _ _ _) ?_
     rintro t65 S65 ⟨rfl, A65, c65, rfl⟩
     refine tb 2 rfl ?_
     refine AWH.one (i := 13) (by kernel_rfl) rfl ?_
     refine AWL.call rfl rfl (B rfl) rfl ce_30 (E rfl rfl) (evsC (E rfl rfl) (evsC (E rfl rfl) (evsC (E rfl rfl) evs0))) (S1 := CB _ _ _ _) (S2 := [_]) rfl (imm37 _ _ _ _ _ 4) ?_
     rintro t68 S68 ⟨rfl, A68, c68, rfl⟩
     refine tb 2 rfl ?_
     refine AWH.done (by kernel_rfl) ?_
     refine AW.rseq ?_
     refine AWL.y rfl rfl (B rfl) (Yv.move rfl (E rfl rfl)) ?_
     refine AWL.y rfl rfl (B rfl) (Yv.nilChk rfl (E rfl rfl)) ?_
     refine AWL.y rfl rfl (B rfl) (Yv.fieldBox rfl fo_49_0 (E rfl rfl)) ?_
     refine AWL.y rfl rfl (B rfl) (Yv.loadBox rfl ag_24 (i := 1) rfl (E rfl rfl) rfl) ?_
     refine AWL.y rfl rfl (B rfl) (Yv.assign rfl (E rfl rfl)) ?_
     refine AWL.y rfl rfl (B rfl) (Yv.assign rfl (E rfl rfl)) ?_
     refine AWL.nil ?_
     refine AW.drop (List.take_sublist 1 _) ?_
     refine AW.ret (retI (.tmp rfl (.tmp rfl .nil)) ?_)
     rw [if_pos hval]
     refine enc_end ?_
     rw [enc1 (by rw [h22t]; rfl)]
     skip
     try simp only [List.append_assoc]
     rfl
    ·
     refine AWL.buildSlice1 rfl rfl (B rfl) rfl el_43 rfl (evsC (E rfl rfl) evs0) (Nat.le_of_ble_eq_true rfl) rfl rfl ?_
     refine tb 2 rfl ?_
     refine AWH.one (i := 3) (by kernel_rfl) rfl ?_
     refine AWL.call rfl rfl (B rfl) rfl ce_27 (E rfl rfl) (evsC (E rfl rfl) (evsC (E rfl rfl) (evsC (E rfl rfl) (evsC (E rfl rfl) evs0)))) (S1 := CB _ _ _ _) (S2 := [_]) rfl (rex34 _ _ _ _ _ _ _) ?_
     rintro t58 S58 ⟨rfl, A58, c58, rfl⟩
     refine tb 2 rfl ?_
     refine AWH.one (i := 6) (by kernel_rfl) rfl ?_
     refine AWL.call rfl rfl (B rfl) rfl ce_28 (E rfl rfl) (evsC (E rfl rfl) (evsC (E rfl rfl) evs0)) (S1 := CB _ _ _ _) (S2 := [_]) rfl (put35 _ _ _ _ [_]) ?_
     rintro t61 S61 ⟨rfl, A61, c61, rfl⟩
     refine tb 2 rfl ?_
     refine AWH.one (i := 10) (by kernel_rfl) rfl ?_
     refine AWL.call rfl rfl (B rfl) rfl ce_29 (E rfl rfl) (evsC (E rfl rfl) (evsC (E rfl rfl) (evsC (E rfl rfl) evs0))) (S1 := CB _ _ _ _) (S2 := [_]) rfl (two36 _ _ _ _ _ _) ?_
     rintro t65 S65 ⟨rfl, A65, c65, rfl⟩
     refine tb 2 rfl ?_
     refine AWH.one (i := 13) (by kernel_rfl) rfl ?_
     refine AWL.call rfl rfl (B rfl) rfl ce_30 (E rfl rfl) (evsC (E rfl rfl) (evsC (E rfl rfl) (evsC (E rfl rfl) evs0))) (S1 := CB _ _ _ _) (S2 := [_]) rfl (imm37 _ _ _ _ _ 4) ?_
     rintro t68 S68 ⟨rfl, A68, c68, rfl⟩
     refine tb 2 rfl ?_
     refine AWH.done (by kernel_rfl) ?_
     refine AW.rseq ?_
     refine AWL.y rfl rfl (B rfl) (Yv.move rfl (E rfl rfl)) ?_
     refine AWL.y rfl rfl (B rfl) (Yv.nilChk rfl (E rfl rfl)) ?_
     refine AWL.y rfl rfl (B rfl) (Yv.fieldBox rfl fo_49_0 (E rfl rfl)) ?_
     refine AWL.y rfl rfl (B rfl) (Yv.loadBox rfl ag_24 (i := 1) rfl (E rfl rfl) rfl) ?_
     refine AWL.y rfl rfl (B rfl) (Yv.assign rfl (E rfl rfl)) ?_
     refine AWL.y rfl rfl (B rfl) (Yv.assign rfl (E rfl rfl)) ?_
     refine AWL.nil ?_
     refine AW.drop (List.take_sublist 1 _) ?_
     refine AW.ret (retI (.tmp rfl (.tmp rfl .nil)) ?_)
     rw [if_pos hval]
     refine enc_end ?_
     rw [enc1 (by rw [h22t]; rfl)]
     skip
     try simp only [List.append_assoc]
     rfl
   · exfalso; replace h23f := of_decide_eq_false h23f; omega
  try replace h22f := of_decide_eq_false h22f
  refine AW.rseq ?_
  refine AWL.y rfl rfl (B rfl) (Yv.eql rfl (E rfl rfl) (E rfl rfl)) ?_
  refine AWL.y rfl rfl (B rfl) (Yv.assign rfl (E rfl rfl)) ?_
  refine AWL.nil ?_
  refine AW.cond rfl (fun h24t => ?_) (fun h24f => ?_)
  ·
   try replace h24t := of_decide_eq_true h24t
   refine AW.skip ?_
   refine AW.cond rfl (fun h25t => ?_) (fun h25f => ?_)
   ·
    try replace h25t := of_decide_eq_true h25t
    refine AW.regionH (HeldBox b1 (insVals i)) rfl (tells_box (k := 2) rfl) ?_
    refine AWH.tk (i := 0) rfl rfl rfl (B rfl) (heldAll (freeMove rfl (E rfl rfl))) ?_
    refine AWH.tk (i := 1) rfl rfl rfl (B rfl) (heldAll (freeField rfl fo_23_1 (E rfl rfl))) ?_
    refine AWH.tk (i := 2) rfl rfl rfl (B rfl) (heldLoad rfl ag_3 (E rfl rfl) rfl) ?_
    refine AWH.tk (i := 4) rfl rfl rfl (B rfl) (heldAll (freeMove rfl (E rfl rfl))) ?_
    refine AWH.tk (i := 7) rfl rfl rfl (B rfl) (heldAll (freeMove rfl (E rfl rfl))) ?_
    refine AWH.tk (i := 8) rfl rfl rfl (B rfl) (heldAll (freeField rfl fo_23_1 (E rfl rfl))) ?_
    refine AWH.tk (i := 9) rfl rfl rfl (B rfl) (heldLoad rfl ag_3 (E rfl rfl) rfl) ?_
    refine AWH.tk (i := 11) rfl rfl rfl (B rfl) (heldAll (freeField rfl fo_23_5 (E rfl rfl))) ?_
    refine AWH.tk (i := 12) rfl rfl rfl (B rfl) (heldLoad rfl ag_2 (E rfl rfl) rfl) ?_
    refine AWH.two (i := 3) (j := 5) (by kernel_rfl) rfl rfl ?_ ?_
    ·
     refine AWL.call rfl rfl (B rfl) rfl ce_27 (E rfl rfl) (evsC (E rfl rfl) (evsC (E rfl rfl) (evsC (E rfl rfl) (evsC (E rfl rfl) evs0)))) (S1 := CB _ _ _ _) (S2 := [_]) rfl (rex34 _ _ _ _ _ _ _) ?_
     rintro t58 S58 ⟨rfl, A58, c58, rfl⟩
     refine tb 2 rfl ?_
     refine AWH.one (i := 5) (by kernel_rfl) rfl ?_
     refine AWL.buildSlice1 rfl rfl (B rfl) rfl el_43 rfl (evsC (E rfl rfl) evs0) (Nat.le_of_ble_eq_true rfl) rfl rfl ?_
     refine tb 2 rfl ?_
     refine AWH.one (i := 6) (by kernel_rfl) rfl ?_
     refine AWL.call rfl rfl (B rfl) rfl ce_28 (E rfl rfl) (evsC (E rfl rfl) (evsC (E rfl rfl) evs0)) (S1 := CB _ _ _ _) (S2 := [_]) rfl (put35 _ _ _ _ [_]) ?_
     rintro t61 S61 ⟨rfl, A61, c61, rfl⟩
     refine tb 2 rfl ?_
     refine AWH.one (i := 10) (by kernel_rfl) rfl ?_
     refine AWL.call rfl rfl (B rfl) rfl ce_29 (E rfl rfl) (evsC (E rfl rfl) (evsC (E rfl rfl) (evsC (E rfl rfl) evs0))) (S1 := CB _ _ _ _) (S2 := [_]) rfl (two36 _ _ _ _ _ _) ?_
     rintro t65 S65 ⟨rfl, A65, c65, rfl⟩
     refine tb 2 rfl ?_
     refine AWH.one (i := 13) (by kernel_rfl) rfl ?_
     refine AWL.call rfl rfl (B rfl) rfl ce_30 (E rfl rfl) (evsC (E rfl rfl) (evsC (E rfl rfl) (evsC (E rfl rfl) evs0))) (S1 := CB _ _ _ _) (S2 := [_]) rfl (imm37 _ _ _ _ _ 4) ?_
     rintro t68 S68 ⟨rfl, A68, c68, rfl⟩
     refine tb 2 rfl ?_
     refine AWH.done (by kernel_rfl) ?_
     refine AW.rseq ?_
     refine AWL.y rfl rfl (B rfl) (Yv.move rfl (E rfl rfl)) ?_
     refine AWL.y rfl rfl (B rfl) (Yv.nilChk rfl (E rfl rfl)) ?_
     refine AWL.y rfl rfl (B rfl) (Yv.fieldBox rfl fo_49_0 (E rfl rfl)) ?_
     refine AWL.y rfl rfl (B rfl) (Yv.loadBox rfl ag_24 (i := 1) rfl (E rfl rfl) rfl) ?_
     refine AWL.y rfl rfl (B rfl) (Yv.assign rfl (E rfl rfl)) ?_
     refine AWL.y rfl rfl (B rfl) (Yv.assign rfl (E rfl rfl)) ?_
     refine AWL.nil ?_
     refine AW.drop (List.take_sublist 1 _) ?_
     refine AW.ret (retI (.tmp rfl (.tmp rfl .nil)) ?_)
     rw [if_pos hval]
     refine enc_end ?_
     rw [enc1 (by rw [h24t]; rfl)]
     skip
     try simp only [List.append_assoc]
     rfl
    ·
     refine AWL.buildSlice1 rfl rfl (B rfl) rfl el_43 rfl (evsC (E rfl rfl) evs0) (Nat.le_of_ble_eq_true rfl) rfl rfl ?_
     refine tb 2 rfl ?_
     refine AWH.one (i := 3) (by kernel_rfl) rfl ?_
     refine AWL.call rfl rfl (B rfl) rfl ce_27 (E rfl rfl) (evsC (E rfl rfl) (evsC (E rfl rfl) (evsC (E rfl rfl) (evsC (E rfl rfl) evs0)))) (S1 := CB _ _ _ _) (S2 := [_]) rfl (rex34 _ _ _ _ _ _ _) ?_
     rintro t58 S58 ⟨rfl, A58, c58, rfl⟩
     refine tb 2 rfl ?_
     refine AWH.one (i := 6) (by kernel_rfl) rfl ?_
     refine AWL.call rfl rfl (B rfl) rfl ce_28 (E rfl rfl) (evsC (E rfl rfl) (evsC (E rfl rfl) evs0)) (S1 := CB _ _ _ _) (S2 := [_]) rfl (put35 _ _ _ _ [_]) ?_
     rintro t61 S61 ⟨rfl, A61, c61, rfl⟩
     refine tb 2 rfl ?_
     refine AWH.one (i := 10) (by kernel_rfl) rfl ?_
     refine AWL.call rfl rfl (B rfl) rfl ce_29 (E rfl rfl) (evsC (E rfl rfl) (evsC (E rfl rfl) (evsC (E rfl rfl) evs0))) (S1 := CB _ _ _ _) (S2 := [_]) rfl (two36 _ _ _ _ _ _) ?_
     rintro t65 S65 ⟨rfl, A65, c65, rfl⟩
     refine tb 2 rfl ?_
     refine AWH.one (i := 13) (by kernel_rfl) rfl ?_
     refine AWL.call rfl rfl (B rfl) rfl ce_30 (E rfl rfl) (evsC (E rfl rfl) (evsC (E rfl rfl) (evsC (E rfl rfl) evs0))) (S1 := CB _ _ _ _) (S2 := [_]) rfl (imm37 _ _ _ _ _ 4) ?_
     rintro t68 S68 ⟨rfl, A68, c68, rfl⟩
     refine tb 2 rfl ?_
     refine AWH.done (by kernel_rfl) ?_
     refine AW.rseq ?_
     refine AWL.y rfl rfl (B rfl) (Yv.move rfl (E rfl rfl)) ?_
     refine AWL.y rfl rfl (B rfl) (Yv.nilChk rfl (E rfl rfl)) ?_
     refine AWL.y rfl rfl (B rfl) (Yv.fieldBox rfl fo_49_0 (E rfl rfl)) ?_
     refine AWL.y rfl rfl (B rfl) (Yv.loadBox rfl ag_24 (i := 1) rfl (E rfl rfl) rfl) ?_
     refine AWL.y rfl rfl (B rfl) (Yv.assign rfl (E rfl rfl)) ?_
     refine AWL.y rfl rfl (B rfl) (Yv.assign rfl (E rfl rfl)) ?_
     refine AWL.nil ?_
     refine AW.drop (List.take_sublist 1 _) ?_
     refine AW.ret (retI (.tmp rfl (.tmp rfl .nil)) ?_)
     rw [if_pos hval]
     refine enc_end ?_
     rw [enc1 (by rw [h24t]; rfl)]
     skip
     try simp only [List.append_assoc]
     rfl
   · exfalso; replace h25f := of_decide_eq_false h25f; omega
  try replace h24f := of_decide_eq_false h24f
  refine AW.rseq ?_
  refine AWL.y rfl rfl (B rfl) (Yv.eql rfl (E rfl rfl) (E rfl rfl)) ?_
  refine AWL.y rfl rfl (B rfl) (Yv.assign rfl (E rfl rfl)) ?_
  refine AWL.nil ?_
  refine AW.cond rfl (fun h26t => ?_) (fun h26f => ?_)
  ·
   try replace h26t := of_decide_eq_true h26t
   refine AW.skip ?_
   refine AW.cond rfl (fun h27t => ?_) (fun h27f => ?_)
   ·
    try replace h27t := of_decide_eq_true h27t
    refine AW.regionH (HeldBox b1 (insVals i)) rfl (tells_box (k := 2) rfl) ?_
    refine AWH.tk (i := 0) rfl rfl rfl (B rfl) (heldAll (freeMove rfl (E rfl rfl))) ?_
    refine AWH.tk (i := 1) rfl rfl rfl (B rfl) (heldAll (freeField rfl fo_23_1 (E rfl rfl))) ?_
    refine AWH.tk (i := 2) rfl rfl rfl (B rfl) (heldLoad rfl ag_3 (E rfl rfl) rfl) ?_
    refine AWH.tk (i := 4) rfl rfl rfl (B rfl) (heldAll (freeMove rfl (E rfl rfl))) ?_
    refine AWH.tk (i := 7) rfl rfl rfl (B rfl) (heldAll (freeMove rfl (E rfl rfl))) ?_
    refine AWH.tk (i := 8) rfl rfl rfl (B rfl) (heldAll (freeField rfl fo_23_1 (E rfl rfl))) ?_
    refine AWH.tk (i := 9) rfl rfl rfl (B rfl) (heldLoad rfl ag_3 (E rfl rfl) rfl) ?_
    refine AWH.tk (i := 11) rfl rfl rfl (B rfl) (heldAll (freeField rfl fo_23_5 (E rfl rfl))) ?_
    refine AWH.tk (i := 12) rfl rfl rfl (B rfl) (heldLoad rfl ag_2 (E rfl rfl) rfl) ?_
    refine AWH.two (i := 3) (j := 5) (by kernel_rfl) rfl rfl ?_ ?_
    ·
     refine AWL.call rfl rfl (B rfl) rfl ce_27 (E rfl rfl) (evsC (E rfl rfl) (evsC (E rfl rfl) (evsC (E rfl rfl) (evsC (E rfl rfl) evs0)))) (S1 := CB _ _ _ _) (S2 := [_]) rfl (rex34 _ _ _ _ _ _ _) ?_
     rintro t58 S58 ⟨rfl, A58, c58, rfl⟩
     refine tb 2 rfl ?_
     refine AWH.one (i := 5) (by kernel_rfl) rfl ?_
     refine AWL.buildSlice1 rfl rfl (B rfl) rfl el_43 rfl (evsC (E rfl rfl) evs0) (Nat.le_of_ble_eq_true rfl) rfl rfl ?_
     refine tb 2 rfl ?_
     refine AWH.one (i := 6) (by kernel_rfl) rfl ?_
     refine AWL.call rfl rfl (B rfl) rfl ce_28 (E rfl rfl) (evsC (E rfl rfl) (evsC (E rfl rfl) evs0)) (S1 := CB _ _ _ _) (S2 := [_]) rfl (put35 _ _ _ _ [_]) ?_
     rintro t61 S61 ⟨rfl, A61, c61, rfl⟩
     refine tb 2 rfl ?_
     refine AWH.one (i := 10) (by kernel_rfl) rfl ?_
     refine AWL.call rfl rfl (B rfl) rfl ce_29 (E rfl rfl) (evsC (E rfl rfl) (evsC (E rfl rfl) (evsC (E rfl rfl) evs0))) (S1 := CB _ _ _ _) (S2 := [_]) rfl (two36 _ _ _ _ _ _) ?_
     rintro t65 S65 ⟨rfl, A65, c65, rfl⟩
     refine tb 2 rfl ?_
     refine AWH.one (i := 13) (by kernel_rfl) rfl ?_
     refine AWL.call rfl rfl (B rfl) rfl ce_30 (E rfl rfl) (evsC (E rfl rfl) (evsC (E rfl rfl) (evsC (E rfl rfl) evs0))) (S1 := CB _ _ _ _) (S2 := [_]) rfl (imm37 _ _ _ _ _ 4) ?_
     rintro t68 S68 ⟨rfl, A68, c68, rfl⟩
     refine tb 2 rfl ?_
     refine AWH.done (by kernel_rfl) ?_
     refine AW.rseq ?_
     refine AWL.y rfl rfl (B rfl) (Yv.move rfl (E rfl rfl)) ?_
     refine AWL.y rfl rfl (B rfl) (Yv.nilChk rfl (E rfl rfl)) ?_
     refine AWL.y rfl rfl (B rfl) (Yv.fieldBox rfl fo_49_0 (E rfl rfl)) ?_
     refine AWL.y rfl rfl (B rfl) (Yv.loadBox rfl ag_24 (i := 1) rfl (E rfl rfl) rfl) ?_
     refine AWL.y rfl rfl (B rfl) (Yv.assign rfl (E rfl rfl)) ?_
     refine AWL.y rfl rfl (B rfl) (Yv.assign rfl (E rfl rfl)) ?_
     refine AWL.nil ?_
     refine AW.drop (List.take_sublist 1 _) ?_
     refine AW.ret (retI (.tmp rfl (.tmp rfl .nil)) ?_)
     rw [if_pos hval]
     refine enc_end ?_
     rw [enc1 (by rw [h26t]; rfl)]
     skip
     try simp only [List.append_assoc]
     rfl
    ·
     refine AWL.buildSlice1 rfl rfl (B rfl) rfl el_43 rfl (evsC (E rfl rfl) evs0) (Nat.le_of_ble_eq_true rfl) rfl rfl ?_
     refine tb 2 rfl ?_
     refine AWH.one (i := 3) (by kernel_rfl) rfl ?_
     refine AWL.call rfl rfl (B rfl) rfl ce_27 (E rfl rfl) (evsC (E rfl rfl) (evsC (E rfl rfl) (evsC (E rfl rfl) (evsC (E rfl rfl) evs0)))) (S1 := CB _ _ _ _) (S2 := [_]) rfl (rex34 _ _ _ _ _ _ _) ?_
     rintro t58 S58 ⟨rfl, A58, c58, rfl⟩
     refine tb 2 rfl ?_
     refine AWH.one (i := 6) (by kernel_rfl) rfl ?_
     refine AWL.call rfl rfl (B rfl) rfl ce_28 (E rfl rfl) (evsC (E rfl rfl) (evsC (E rfl rfl) evs0)) (S1 := CB _ _ _ _) (S2 := [_]) rfl (put35 _ _ _ _ [_]) ?_
     rintro t61 S61 ⟨rfl, A61, c61, rfl⟩
     refine tb 2 rfl ?_
     refine AWH.one (i := 10) (by kernel_rfl) rfl ?_
     refine AWL.call rfl rfl (B rfl) rfl ce_29 (E rfl rfl) (evsC (E rfl rfl) (evsC (E rfl rfl) (evsC (E rfl rfl) evs0))) (S1 := CB _ _ _ _) (S2 := [_]) rfl (two36 _ _ _ _ _ _) ?_
     rintro t65 S65 ⟨rfl, A65, c65, rfl⟩
     refine tb 2 rfl ?_
     refine AWH.one (i := 13) (by kernel_rfl) rfl ?_
     refine AWL.call rfl rfl (B rfl) rfl ce_30 (E rfl rfl) (evsC (E rfl rfl) (evsC (E rfl rfl) (evsC (E rfl rfl) evs0))) (S1 := CB _ _ _ _) (S2 := [_]) rfl (imm37 _ _ _ _ _ 4) ?_
     rintro t68 S68 ⟨rfl, A68, c68, rfl⟩
     refine tb 2 rfl ?_
     refine AWH.done (by kernel_rfl) ?_
     refine AW.rseq ?_
     refine AWL.y rfl rfl (B rfl) (Yv.move rfl (E rfl rfl)) ?_
     refine AWL.y rfl rfl (B rfl) (Yv.nilChk rfl (E rfl rfl)) ?_
     refine AWL.y rfl rfl (B rfl) (Yv.fieldBox rfl fo_49_0 (E rfl rfl)) ?_
     refine AWL.y rfl rfl (B rfl) (Yv.loadBox rfl ag_24 (i := 1) rfl (E rfl rfl) rfl) ?_
     refine AWL.y rfl rfl (B rfl) (Yv.assign rfl (E rfl rfl)) ?_
     refine AWL.y rfl rfl (B rfl) (Yv.assign rfl (E rfl rfl)) ?_
     refine AWL.nil ?_
     refine AW.drop (List.take_sublist 1 _) ?_
     refine AW.ret (retI (.tmp rfl (.tmp rfl .nil)) ?_)
     rw [if_pos hval]
     refine enc_end ?_
     rw [enc1 (by rw [h26t]; rfl)]
     skip
     try simp only [List.append_assoc]
     rfl
   · exfalso; replace h27f := of_decide_eq_false h27f; omega
  try replace h26f := of_decide_eq_false h26f
  refine AW.rseq ?_
  refine AWL.y rfl rfl (B rfl) (Yv.eql rfl (E rfl rfl) (E rfl rfl)) ?_
  refine AWL.y rfl rfl (B rfl) (Yv.assign rfl (E rfl rfl)) ?_
  refine AWL.nil ?_
  refine AW.cond rfl (fun h28t => ?_) (fun h28f => ?_)
  ·
   try replace h28t := of_decide_eq_true h28t
   refine AW.skip ?_
   refine AW.cond rfl (fun h29t => ?_) (fun h29f => ?_)
   ·
    try replace h29t := of_decide_eq_true h29t
    refine AW.regionH (HeldBox b1 (insVals i)) rfl (tells_box (k := 2) rfl) ?_
    refine AWH.tk (i := 0) rfl rfl rfl (B rfl) (heldAll (freeMove rfl (E rfl rfl))) ?_
    refine AWH.tk (i := 1) rfl rfl rfl (B rfl) (heldAll (freeField rfl fo_23_1 (E rfl rfl))) ?_
    refine AWH.tk (i := 2) rfl rfl rfl (B rfl) (heldLoad rfl ag_3 (E rfl rfl) rfl) ?_
    refine AWH.tk (i := 4) rfl rfl rfl (B rfl) (heldAll (freeMove rfl (E rfl rfl))) ?_
    refine AWH.tk (i := 7) rfl rfl rfl (B rfl) (heldAll (freeMove rfl (E rfl rfl))) ?_
    refine AWH.tk (i := 8) rfl rfl rfl (B rfl) (heldAll (freeField rfl fo_23_1 (E rfl rfl))) ?_
    refine AWH.tk (i := 9) rfl rfl rfl (B rfl) (heldLoad rfl ag_3 (E rfl rfl) rfl) ?_
    refine AWH.tk (i := 11) rfl rfl rfl (B rfl) (heldAll (freeField rfl fo_23_5 (E rfl rfl))) ?_
    refine AWH.tk (i := 12) rfl rfl rfl (B rfl) (heldLoad rfl ag_2 (E rfl rfl) rfl) ?_
    refine AWH.two (i := 3) (j := 5) (by kernel_rfl) rfl rfl ?_ ?_
    ·
     refine AWL.call rfl rfl (B rfl) rfl ce_27 (E rfl rfl) (evsC (E rfl rfl) (evsC (E rfl rfl) (evsC (E rfl rfl) (evsC (E rfl rfl) evs0)))) (S1 := CB _ _ _ _) (S2 := [_]) rfl (rex34 _ _ _ _ _ _ _) ?_
     rintro t58 S58 ⟨rfl, A58, c58, rfl⟩
     refine tb 2 rfl ?_
     refine AWH.one (i := 5) (by kernel_rfl) rfl ?_
     refine AWL.buildSlice1 rfl rfl (B rfl) rfl el_43 rfl (evsC (E rfl rfl) evs0) (Nat.le_of_ble_eq_true rfl) rfl rfl ?_
     refine tb 2 rfl ?_
     refine AWH.one (i := 6) (by kernel_rfl) rfl ?_
     refine AWL.call rfl rfl (B rfl) rfl ce_28 (E rfl rfl) (evsC (E rfl rfl) (evsC (E rfl rfl) evs0)) (S1 := CB _ _ _ _) (S2 := [_]) rfl (put35 _ _ _ _ [_]) ?_
     rintro t61 S61 ⟨rfl, A61, c61, rfl⟩
     refine tb 2 rfl ?_
     refine AWH.one (i := 10) (by kernel_rfl) rfl ?_
     refine AWL.call rfl rfl (B rfl) rfl ce_29 (E rfl rfl) (evsC (E rfl rfl) (evsC (E rfl rfl) (evsC (E rfl rfl) evs0))) (S1 := CB _ _ _ _) (S2 := [_]) rfl (two36 _ _ _ _ _ _) ?_
     rintro t65 S65 ⟨rfl, A65, c65, rfl⟩
     refine tb 2 rfl ?_
     refine AWH.one (i := 13) (by kernel_rfl) rfl ?_
     refine AWL.call rfl rfl (B rfl) rfl ce_30 (E rfl rfl) (evsC (E rfl rfl) (evsC (E rfl rfl) (evsC (E rfl rfl) evs0))) (S1 := CB _ _ _ _) (S2 := [_]) rfl (imm37 _ _ _ _ _ 4) ?_
     rintro t68 S68 ⟨rfl, A68, c68, rfl⟩
     refine tb 2 rfl ?_
     refine AWH.done (by kernel_rfl) ?_
     refine AW.rseq ?_
     refine AWL.y rfl rfl (B rfl) (Yv.move rfl (E rfl rfl)) ?_
     refine AWL.y rfl rfl (B rfl) (Yv.nilChk rfl (E rfl rfl)) ?_
     refine AWL.y rfl rfl (B rfl) (Yv.fieldBox rfl fo_49_0 (E rfl rfl)) ?_
     refine AWL.y rfl rfl (B rfl) (Yv.loadBox rfl ag_24 (i := 1) rfl (E rfl rfl) rfl) ?_
     refine AWL.y rfl rfl (B rfl) (Yv.assign rfl (E rfl rfl)) ?_
     refine AWL.y rfl rfl (B rfl) (Yv.assign rfl (E rfl rfl)) ?_
     refine AWL.nil ?_
     refine AW.drop (List.take_sublist 1 _) ?_
     refine AW.ret (retI (.tmp rfl (.tmp rfl .nil)) ?_)
     rw [if_pos hval]
     refine enc_end ?_
     rw [enc1 (by rw [h28t]; rfl)]
     skip
     try simp only [List.append_assoc]
     rfl
    ·
     refine AWL.buildSlice1 rfl rfl (B rfl) rfl el_43 rfl (evsC (E rfl rfl) evs0) (Nat.le_of_ble_eq_true rfl) rfl rfl ?_
     refine tb 2 rfl ?_
     refine AWH.one (i := 3) (by kernel_rfl) rfl ?_
     refine AWL.call rfl rfl (B rfl) rfl ce_27 (E rfl rfl) (evsC (E rfl rfl) (evsC (E rfl rfl) (evsC (E rfl rfl) (evsC (E rfl rfl) evs0)))) (S1 := CB _ _ _ _) (S2 := [_]) rfl (rex34 _ _ _ _ _ _ _) ?_
     rintro t58 S58 ⟨rfl, A58, c58, rfl⟩
     refine tb 2 rfl ?_
     refine AWH.one (i := 6) (by kernel_rfl) rfl ?_
     refine AWL.call rfl rfl (B rfl) rfl ce_28 (E rfl rfl) (evsC (E rfl rfl) (evsC (E rfl rfl) evs0)) (S1 := CB _ _ _ _) (S2 := [_]) rfl (put35 _ _ _ _ [_]) ?_
     rintro t61 S61 ⟨rfl, A61, c61, rfl⟩
     refine tb 2 rfl ?_
     refine AWH.one (i := 10) (by kernel_rfl) rfl ?_
     refine AWL.call rfl rfl (B rfl) rfl ce_29 (E rfl rfl) (evsC (E rfl rfl) (evsC (E rfl rfl) (evsC (E rfl rfl) evs0))) (S1 := CB _ _ _ _) (S2 := [_]) rfl (two36 _ _ _ _ _ _) ?_
     rintro t65 S65 ⟨rfl, A65, c65, rfl⟩
     refine tb 2 rfl ?_
     refine AWH.one (i := 13) (by kernel_rfl) rfl ?_
     refine AWL.call rfl rfl (B rfl) rfl ce_30 (E rfl rfl) (evsC (E rfl rfl) (evsC (E rfl rfl) (evsC (E rfl rfl) evs0))) (S1 := CB _ _ _ _) (S2 := [_]) rfl (imm37 _ _ _ _ _ 4) ?_
     rintro t68 S68 ⟨rfl, A68, c68, rfl⟩
     refine tb 2 rfl ?_
     refine AWH.done (by kernel_rfl) ?_
     refine AW.rseq ?_
     refine AWL.y rfl rfl (B rfl) (Yv.move rfl (E rfl rfl)) ?_
     refine AWL.y rfl rfl (B rfl) (Yv.nilChk rfl (E rfl rfl)) ?_
     refine AWL.y rfl rfl (B rfl) (Yv.fieldBox rfl fo_49_0 (E rfl rfl)) ?_
     refine AWL.y rfl rfl (B rfl) (Yv.loadBox rfl ag_24 (i := 1) rfl (E rfl rfl) rfl) ?_
     refine AWL.y rfl rfl (B rfl) (Yv.assign rfl (E rfl rfl)) ?_
     refine AWL.y rfl rfl (B rfl) (Yv.assign rfl (E rfl rfl)) ?_
     refine AWL.nil ?_
     refine AW.drop (List.take_sublist 1 _) ?_
     refine AW.ret (retI (.tmp rfl (.tmp rfl .nil)) ?_)
     rw [if_pos hval]
     refine enc_end ?_
     rw [enc1 (by rw [h28t]; rfl)]
     skip
     try simp only [List.append_assoc]
     rfl
   · exfalso; replace h29f := of_decide_eq_false h29f; omega
  try replace h28f := of_decide_eq_false h28f
  refine AW.region ?_
  refine AWL.y rfl rfl (B rfl) (Yv.eql rfl (E rfl rfl) (E rfl rfl)) ?_
  refine AWL.y rfl rfl (B rfl) (Yv.assign rfl (E rfl rfl)) ?_
  refine AWL.nil ?_
  refine AW.cond rfl (fun h30t => ?_) (fun h30f => ?_)
  ·
   try replace h30t := of_decide_eq_true h30t
   refine AW.regionH (HeldBox b1 (insVals i)) rfl (tells_box (k := 2) rfl) ?_
   refine AWH.tk (i := 0) rfl rfl rfl (B rfl) (heldAll (freeMove rfl (E rfl rfl))) ?_
   refine AWH.tk (i := 1) rfl rfl rfl (B rfl) (heldAll (freeField rfl fo_23_1 (E rfl rfl))) ?_
   refine AWH.tk (i := 2) rfl rfl rfl (B rfl) (heldLoad rfl ag_3 (E rfl rfl) rfl) ?_
   refine AWH.tk (i := 4) rfl rfl rfl (B rfl) (heldAll (freeMove rfl (E rfl rfl))) ?_
   refine AWH.tk (i := 7) rfl rfl rfl (B rfl) (heldAll (freeMove rfl (E rfl rfl))) ?_
   refine AWH.tk (i := 8) rfl rfl rfl (B rfl) (heldAll (freeField rfl fo_23_1 (E rfl rfl))) ?_
   refine AWH.tk (i := 9) rfl rfl rfl (B rfl) (heldLoad rfl ag_3 (E rfl rfl) rfl) ?_
   refine AWH.tk (i := 11) rfl rfl rfl (B rfl) (heldAll (freeField rfl fo_23_5 (E rfl rfl))) ?_
   refine AWH.tk (i := 12) rfl rfl rfl (B rfl) (heldLoad rfl ag_2 (E rfl rfl) rfl) ?_
   refine AWH.two (i := 3) (j := 5) (by kernel_rfl) rfl rfl ?_ ?_
   ·
    refine AWL.call rfl rfl (B rfl) rfl ce_27 (E rfl rfl) (evsC (E rfl rfl) (evsC (E rfl rfl) (evsC (E rfl rfl) (evsC (E rfl rfl) evs0)))) (S1 := CB _ _ _ _) (S2 := [_]) rfl (rex34 _ _ _ _ _ _ _) ?_
    rintro t58 S58 ⟨rfl, A58, c58, rfl⟩
    refine tb 2 rfl ?_
    refine AWH.one (i := 5) (by kernel_rfl) rfl ?_
    refine AWL.buildSlice1 rfl rfl (B rfl) rfl el_43 rfl (evsC (E rfl rfl) evs0) (Nat.le_of_ble_eq_true rfl) rfl rfl ?_
    refine tb 2 rfl ?_
    refine AWH.one (i := 6) (by kernel_rfl) rfl ?_
    refine AWL.call rfl rfl (B rfl) rfl ce_28 (E rfl rfl) (evsC (E rfl rfl) (evsC (E rfl rfl) evs0)) (S1 := CB _ _ _ _) (S2 := [_]) rfl (put35 _ _ _ _ [_]) ?_
    rintro t61 S61 ⟨rfl, A61, c61, rfl⟩
    refine tb 2 rfl ?_
    refine AWH.one (i := 10) (by kernel_rfl) rfl ?_
    refine AWL.call rfl rfl (B rfl) rfl ce_29 (E rfl rfl) (evsC (E rfl rfl) (evsC (E rfl rfl) (evsC (E rfl rfl) evs0))) (S1 := CB _ _ _ _) (S2 := [_]) rfl (two36 _ _ _ _ _ _) ?_
    rintro t65 S65 ⟨rfl, A65, c65, rfl⟩
    refine tb 2 rfl ?_
    refine AWH.one (i := 13) (by kernel_rfl) rfl ?_
    refine AWL.call rfl rfl (B rfl) rfl ce_30 (E rfl rfl) (evsC (E rfl rfl) (evsC (E rfl rfl) (evsC (E rfl rfl) evs0))) (S1 := CB _ _ _ _) (S2 := [_]) rfl (imm37 _ _ _ _ _ 4) ?_
    rintro t68 S68 ⟨rfl, A68, c68, rfl⟩
    refine tb 2 rfl ?_
    refine AWH.done (by kernel_rfl) ?_
    refine AW.rseq ?_
    refine AWL.y rfl rfl (B rfl) (Yv.move rfl (E rfl rfl)) ?_
    refine AWL.y rfl rfl (B rfl) (Yv.nilChk rfl (E rfl rfl)) ?_
    refine AWL.y rfl rfl (B rfl) (Yv.fieldBox rfl fo_49_0 (E rfl rfl)) ?_
    refine AWL.y rfl rfl (B rfl) (Yv.loadBox rfl ag_24 (i := 1) rfl (E rfl rfl) rfl) ?_
    refine AWL.y rfl rfl (B rfl) (Yv.assign rfl (E rfl rfl)) ?_
    refine AWL.y rfl rfl (B rfl) (Yv.assign rfl (E rfl rfl)) ?_
    refine AWL.nil ?_
    refine AW.drop (List.take_sublist 1 _) ?_
    refine AW.ret (retI (.tmp rfl (.tmp rfl .nil)) ?_)
    rw [if_pos hval]
    refine enc_end ?_
    rw [enc1 (by rw [h30t]; rfl)]
    skip
    try simp only [List.append_assoc]
    rfl
   ·
    refine AWL.buildSlice1 rfl rfl (B rfl) rfl el_43 rfl (evsC (E rfl rfl) evs0) (Nat.le_of_ble_eq_true rfl) rfl rfl ?_
    refine tb 2 rfl ?_
    refine AWH.one (i := 3) (by kernel_rfl) rfl ?_
    refine AWL.call rfl rfl (B rfl) rfl ce_27 (E rfl rfl) (evsC (E rfl rfl) (evsC (E rfl rfl) (evsC (E rfl rfl) (evsC (E rfl rfl) evs0)))) (S1 := CB _ _ _ _) (S2 := [_]) rfl (rex34 _ _ _ _ _ _ _) ?_
    rintro t58 S58 ⟨rfl, A58, c58, rfl⟩
    refine tb 2 rfl ?_
    refine AWH.one (i := 6) (by kernel_rfl) rfl ?_
    refine AWL.call rfl rfl (B rfl) rfl ce_28 (E rfl rfl) (evsC (E rfl rfl) (evsC (E rfl rfl) evs0)) (S1 := CB _ _ _ _) (S2 := [_]) rfl (put35 _ _ _ _ [_]) ?_
    rintro t61 S61 ⟨rfl, A61, c61, rfl⟩
    refine tb 2 rfl ?_
    refine AWH.one (i := 10) (by kernel_rfl) rfl ?_
    refine AWL.call rfl rfl (B rfl) rfl ce_29 (E rfl rfl) (evsC (E rfl rfl) (evsC (E rfl rfl) (evsC (E rfl rfl) evs0))) (S1 := CB _ _ _ _) (S2 := [_]) rfl (two36 _ _ _ _ _ _) ?_
    rintro t65 S65 ⟨rfl, A65, c65, rfl⟩
    refine tb 2 rfl ?_
    refine AWH.one (i := 13) (by kernel_rfl) rfl ?_
    refine AWL.call rfl rfl (B rfl) rfl ce_30 (E rfl rfl) (evsC (E rfl rfl) (evsC (E rfl rfl) (evsC (E rfl rfl) evs0))) (S1 := CB _ _ _ _) (S2 := [_]) rfl (imm37 _ _ _ _ _ 4) ?_
    rintro t68 S68 ⟨rfl, A68, c68, rfl⟩
    refine tb 2 rfl ?_
    refine AWH.done (by kernel_rfl) ?_
    refine AW.rseq ?_
    refine AWL.y rfl rfl (B rfl) (Yv.move rfl (E rfl rfl)) ?_
    refine AWL.y rfl rfl (B rfl) (Yv.nilChk rfl (E rfl rfl)) ?_
    refine AWL.y rfl rfl (B rfl) (Yv.fieldBox rfl fo_49_0 (E rfl rfl)) ?_
    refine AWL.y rfl rfl (B rfl) (Yv.loadBox rfl ag_24 (i := 1) rfl (E rfl rfl) rfl) ?_
    refine AWL.y rfl rfl (B rfl) (Yv.assign rfl (E rfl rfl)) ?_
    refine AWL.y rfl rfl (B rfl) (Yv.assign rfl (E rfl rfl)) ?_
    refine AWL.nil ?_
    refine AW.drop (List.take_sublist 1 _) ?_
    refine AW.ret (retI (.tmp rfl (.tmp rfl .nil)) ?_)
    rw [if_pos hval]
    refine enc_end ?_
    rw [enc1 (by rw [h30t]; rfl)]
    skip
    try simp only [List.append_assoc]
    rfl
  try replace h30f := of_decide_eq_false h30f
  refine AW.seq ?_
  refine AW.rseq ?_
  refine AWL.y rfl rfl (B rfl) (Yv.eql rfl (E rfl rfl) (E rfl rfl)) ?_
  refine AWL.y rfl rfl (B rfl) (Yv.assign rfl (E rfl rfl)) ?_
  refine AWL.nil ?_
  refine AW.cond rfl (fun h31t => ?_) (fun h31f => ?_)
  ·
   try replace h31t := of_decide_eq_true h31t
   refine AW.skip ?_
   refine AW.cond rfl (fun h32t => ?_) (fun h32f => ?_)
   ·
    try replace h32t := of_decide_eq_true h32t
    refine AW.regionH (HeldBox b1 (insVals i)) rfl (tells_box (k := 2) rfl) ?_
    refine AWH.tk (i := 0) rfl rfl rfl (B rfl) (heldAll (freeMove rfl (E rfl rfl))) ?_
    refine AWH.tk (i := 1) rfl rfl rfl (B rfl) (heldAll (freeField rfl fo_23_1 (E rfl rfl))) ?_
    refine AWH.tk (i := 2) rfl rfl rfl (B rfl) (heldLoad rfl ag_3 (E rfl rfl) rfl) ?_
    refine AWH.tk (i := 4) rfl rfl rfl (B rfl) (heldAll (freeMove rfl (E rfl rfl))) ?_
    refine AWH.tk (i := 7) rfl rfl rfl (B rfl) (heldAll (freeMove rfl (E rfl rfl))) ?_
    refine AWH.tk (i := 8) rfl rfl rfl (B rfl) (heldAll (freeField rfl fo_23_1 (E rfl rfl))) ?_
    refine AWH.tk (i := 9) rfl rfl rfl (B rfl) (heldLoad rfl ag_3 (E rfl rfl) rfl) ?_
    refine AWH.two (i := 3) (j := 5) (by kernel_rfl) rfl rfl ?_ ?_
    ·
     refine AWL.call rfl rfl (B rfl) rfl ce_27 (E rfl rfl) (evsC (E rfl rfl) (evsC (E rfl rfl) (evsC (E rfl rfl) (evsC (E rfl rfl) evs0)))) (S1 := CB _ _ _ _) (S2 := [_]) rfl (rex34 _ _ _ _ _ _ _) ?_
     rintro t80 S80 ⟨rfl, A80, c80, rfl⟩
     refine tb 2 rfl ?_
     refine AWH.one (i := 5) (by kernel_rfl) rfl ?_
     refine AWL.buildSlice1 rfl rfl (B rfl) rfl el_43 rfl (evsC (E rfl rfl) evs0) (Nat.le_of_ble_eq_true rfl) rfl rfl ?_
     refine tb 2 rfl ?_
     refine AWH.one (i := 6) (by kernel_rfl) rfl ?_
     refine AWL.call rfl rfl (B rfl) rfl ce_28 (E rfl rfl) (evsC (E rfl rfl) (evsC (E rfl rfl) evs0)) (S1 := CB _ _ _ _) (S2 := [_]) rfl (put35 _ _ _ _ [_]) ?_
     rintro t83 S83 ⟨rfl, A83, c83, rfl⟩
     refine tb 2 rfl ?_
     refine AWH.one (i := 10) (by kernel_rfl) rfl ?_
     refine AWL.call rfl rfl (B rfl) rfl ce_29 (E rfl rfl) (evsC (E rfl rfl) (evsC (E rfl rfl) (evsC (E rfl rfl) evs0))) (S1 := CB _ _ _ _) (S2 := [_]) rfl (two36 _ _ _ _ _ _) ?_
     rintro t87 S87 ⟨rfl, A87, c87, rfl⟩
     refine tb 2 rfl ?_
     refine AWH.done (by kernel_rfl) ?_
     refine AW.rseq ?_
     refine AWL.y rfl rfl (B rfl) (Yv.move rfl (E rfl rfl)) ?_
     refine AWL.y rfl rfl (B rfl) (Yv.nilChk rfl (E rfl rfl)) ?_
     refine AWL.y rfl rfl (B rfl) (Yv.fieldBox rfl fo_49_0 (E rfl rfl)) ?_
     refine AWL.y rfl rfl (B rfl) (Yv.loadBox rfl ag_24 (i := 1) rfl (E rfl rfl) rfl) ?_
     refine AWL.y rfl rfl (B rfl) (Yv.assign rfl (E rfl rfl)) ?_
     refine AWL.y rfl rfl (B rfl) (Yv.assign rfl (E rfl rfl)) ?_
     refine AWL.nil ?_
     refine AW.drop (List.take_sublist 1 _) ?_
     refine AW.ret (retI (.tmp rfl (.tmp rfl .nil)) ?_)
     rw [if_pos hval]
     refine enc_end ?_
     rw [enc2 (by rw [h31t]; rfl)]
     skip
     try simp only [List.append_assoc]
     rfl
    ·
     refine AWL.buildSlice1 rfl rfl (B rfl) rfl el_43 rfl (evsC (E rfl rfl) evs0) (Nat.le_of_ble_eq_true rfl) rfl rfl ?_
     refine tb 2 rfl ?_
     refine AWH.one (i := 3) (by kernel_rfl) rfl ?_
     refine AWL.call rfl rfl (B rfl) rfl ce_27 (E rfl rfl) (evsC (E rfl rfl) (evsC (E rfl rfl) (evsC (E rfl rfl) (evsC (E rfl rfl) evs0)))) (S1 := CB _ _ _ _) (S2 := [_]) rfl (rex34 _ _ _ _ _ _ _) ?_
     rintro t80 S80 ⟨rfl, A80, c80, rfl⟩
     refine tb 2 rfl ?_
     refine AWH.one (i := 6) (by kernel_rfl) rfl ?_
     refine AWL.call rfl rfl (B rfl) rfl ce_28 (E rfl rfl) (evsC (E rfl rfl) (evsC (E rfl rfl) evs0)) (S1 := CB _ _ _ _) (S2 := [_]) rfl (put35 _ _ _ _ [_]) ?_
     rintro t83 S83 ⟨rfl, A83, c83, rfl⟩
     refine tb 2 rfl ?_
     refine AWH.one (i := 10) (by kernel_rfl) rfl ?_
     refine AWL.call rfl rfl (B rfl) rfl ce_29 (E rfl rfl) (evsC (E rfl rfl) (evsC (E rfl rfl) (evsC (E rfl rfl) evs0))) (S1 := CB _ _ _ _) (S2 := [_]) rfl (two36 _ _ _ _ _ _) ?_
     rintro t87 S87 ⟨rfl, A87, c87, rfl⟩
     refine tb 2 rfl ?_
     refine AWH.done (by kernel_rfl) ?_
     refine AW.rseq ?_
     refine AWL.y rfl rfl (B rfl) (Yv.move rfl (E rfl rfl)) ?_
     refine AWL.y rfl rfl (B rfl) (Yv.nilChk rfl (E rfl rfl)) ?_
     refine AWL.y rfl rfl (B rfl) (Yv.fieldBox rfl fo_49_0 (E rfl rfl)) ?_
     refine AWL.y rfl rfl (B rfl) (Yv.loadBox rfl ag_24 (i := 1) rfl (E rfl rfl) rfl) ?_
     refine AWL.y rfl rfl (B rfl) (Yv.assign rfl (E rfl rfl)) ?_
     refine AWL.y rfl rfl (B rfl) (Yv.assign rfl (E rfl rfl)) ?_
     refine AWL.nil ?_
     refine AW.drop (List.take_sublist 1 _) ?_
     refine AW.ret (retI (.tmp rfl (.tmp rfl .nil)) ?_)
     rw [if_pos hval]
     refine enc_end ?_
     rw [enc2 (by rw [h31t]; rfl)]
     skip
     try simp only [List.append_assoc]
     rfl
   · exfalso; replace h32f := of_decide_eq_false h32f; omega
  try replace h31f := of_decide_eq_false h31f
  refine AW.rseq ?_
  refine AWL.y rfl rfl (B rfl) (Yv.eql rfl (E rfl rfl) (E rfl rfl)) ?_
  refine AWL.y rfl rfl (B rfl) (Yv.assign rfl (E rfl rfl)) ?_
  refine AWL.nil ?_
  refine AW.cond rfl (fun h33t => ?_) (fun h33f => ?_)
  ·
   try replace h33t := of_decide_eq_true h33t
   refine AW.skip ?_
   refine AW.cond rfl (fun h34t => ?_) (fun h34f => ?_)
   ·
    try replace h34t := of_decide_eq_true h34t
    refine AW.regionH (HeldBox b1 (insVals i)) rfl (tells_box (k := 2) rfl) ?_
    refine AWH.tk (i := 0) rfl rfl rfl (B rfl) (heldAll (freeMove rfl (E rfl rfl))) ?_
    refine AWH.tk (i := 1) rfl rfl rfl (B rfl) (heldAll (freeField rfl fo_23_1 (E rfl rfl))) ?_
    refine AWH.tk (i := 2) rfl rfl rfl (B rfl) (heldLoad rfl ag_3 (E rfl rfl) rfl) ?_
    refine AWH.tk (i := 4) rfl rfl rfl (B rfl) (heldAll (freeMove rfl (E rfl rfl))) ?_
    refine AWH.tk (i := 7) rfl rfl rfl (B rfl) (heldAll (freeMove rfl (E rfl rfl))) ?_
    refine AWH.tk (i := 8) rfl rfl rfl (B rfl) (heldAll (freeField rfl fo_23_1 (E rfl rfl))) ?_
    refine AWH.tk (i := 9) rfl rfl rfl (B rfl) (heldLoad rfl ag_3 (E rfl rfl) rfl) ?_
    refine AWH.two (i := 3) (j := 5) (by kernel_rfl) rfl rfl ?_ ?_
    ·
     refine AWL.call rfl rfl (B rfl) rfl ce_27 (E rfl rfl) (evsC (E rfl rfl) (evsC (E rfl rfl) (evsC (E rfl rfl) (evsC (E rfl rfl) evs0)))) (S1 := CB _ _ _ _) (S2 := [_]) rfl (rex34 _ _ _ _ _ _ _) ?_
     rintro t80 S80 ⟨rfl, A80, c80, rfl⟩
     refine tb 2 rfl ?_
     refine AWH.one (i := 5) (by kernel_rfl) rfl ?_
     refine AWL.buildSlice1 rfl rfl (B rfl) rfl el_43 rfl (evsC (E rfl rfl) evs0) (Nat.le_of_ble_eq_true rfl) rfl rfl ?_
     refine tb 2 rfl ?_
     refine AWH.one (i := 6) (by kernel_rfl) rfl ?_
     refine AWL.call rfl rfl (B rfl) rfl ce_28 (E rfl rfl) (evsC (E rfl rfl) (evsC (E rfl rfl) evs0)) (S1 := CB _ _ _ _) (S2 := [_]) rfl (put35 _ _ _ _ [_]) ?_
     rintro t83 S83 ⟨rfl, A83, c83, rfl⟩
     refine tb 2 rfl ?_
     refine AWH.one (i := 10) (by kernel_rfl) rfl ?_
     refine AWL.call rfl rfl (B rfl) rfl ce_29 (E rfl rfl) (evsC (E rfl rfl) (evsC (E rfl rfl) (evsC (E rfl rfl) evs0))) (S1 := CB _ _ _ _) (S2 := [_]) rfl (two36 _ _ _ _ _ _) ?_
     rintro t87 S87 ⟨rfl, A87, c87, rfl⟩
     refine tb 2 rfl ?_
     refine AWH.done (by kernel_rfl) ?_
     refine AW.rseq ?_
     refine AWL.y rfl rfl (B rfl) (Yv.move rfl (E rfl rfl)) ?_
     refine AWL.y rfl rfl (B rfl) (Yv.nilChk rfl (E rfl rfl)) ?_
     refine AWL.y rfl rfl (B rfl) (Yv.fieldBox rfl fo_49_0 (E rfl rfl)) ?_
     refine AWL.y rfl rfl (B rfl) (Yv.loadBox rfl ag_24 (i := 1) rfl (E rfl rfl) rfl) ?_
     refine AWL.y rfl rfl (B rfl) (Yv.assign rfl (E rfl rfl)) ?_
     refine AWL.y rfl rfl (B rfl) (Yv.assign rfl (E rfl rfl)) ?_
     refine AWL.nil ?_
     refine AW.drop (List.take_sublist 1 _) ?_
     refine AW.ret (retI (.tmp rfl (.tmp rfl .nil)) ?_)
     rw [if_pos hval]
     refine enc_end ?_
     rw [enc2 (by rw [h33t]; rfl)]
     skip
     try simp only [List.append_assoc]
     rfl
    ·
     refine AWL.buildSlice1 rfl rfl (B rfl) rfl el_43 rfl (evsC (E rfl rfl) evs0) (Nat.le_of_ble_eq_true rfl) rfl rfl ?_
     refine tb 2 rfl ?_
     refine AWH.one (i := 3) (by kernel_rfl) rfl ?_
     refine AWL.call rfl rfl (B rfl) rfl ce_27 (E rfl rfl) (evsC (E rfl rfl) (evsC (E rfl rfl) (evsC (E rfl rfl) (evsC (E rfl rfl) evs0)))) (S1 := CB _ _ _ _) (S2 := [_]) rfl (rex34 _ _ _ _ _ _ _) ?_
     rintro t80 S80 ⟨rfl, A80, c80, rfl⟩
     refine tb 2 rfl ?_
     refine AWH.one (i := 6) (by kernel_rfl) rfl ?_
     refine AWL.call rfl rfl (B rfl) rfl ce_28 (E rfl rfl) (evsC (E rfl rfl) (evsC (E rfl rfl) evs0)) (S1 := CB _ _ _ _) (S2 := [_]) rfl (put35 _ _ _ _ [_]) ?_
     rintro t83 S83 ⟨rfl, A83, c83, rfl⟩
     refine tb 2 rfl ?_
     refine AWH.one (i := 10) (by kernel_rfl) rfl ?_
     refine AWL.call rfl rfl (B rfl) rfl ce_29 (E rfl rfl) (evsC (E rfl rfl) (evsC (E rfl rfl) (evsC (E rfl rfl) evs0))) (S1 := CB _ _ _ _) (S2 := [_]) rfl (two36 _ _ _ _ _ _) ?_
     rintro t87 S87 ⟨rfl, A87, c87, rfl⟩
     refine tb 2 rfl ?_
     refine AWH.done (by kernel_rfl) ?_
     refine AW.rseq ?_
     refine AWL.y rfl rfl (B rfl) (Yv.move rfl (E rfl rfl)) ?_
     refine AWL.y rfl rfl (B rfl) (Yv.nilChk rfl (E rfl rfl)) ?_
     refine AWL.y rfl rfl (B rfl) (Yv.fieldBox rfl fo_49_0 (E rfl rfl)) ?_
     refine AWL.y rfl rfl (B rfl) (Yv.loadBox rfl ag_24 (i := 1) rfl (E rfl rfl) rfl) ?_
     refine AWL.y rfl rfl (B rfl) (Yv.assign rfl (E rfl rfl)) ?_
     refine AWL.y rfl rfl (B rfl) (Yv.assign rfl (E rfl rfl)) ?_
     refine AWL.nil ?_
     refine AW.drop (List.take_sublist 1 _) ?_
     refine AW.ret (retI (.tmp rfl (.tmp rfl .nil)) ?_)
     rw [if_pos hval]
     refine enc_end ?_
     rw [enc2 (by rw [h33t]; rfl)]
     skip
     try simp only [List.append_assoc]
     rfl
   · exfalso; replace h34f := of_decide_eq_false h34f; omega
  try replace h33f := of_decide_eq_false h33f
  refine AW.rseq ?_
  refine AWL.y rfl rfl (B rfl) (Yv.eql rfl (E rfl rfl) (E rfl rfl)) ?_
  refine AWL.y rfl rfl (B rfl) (Yv.assign rfl (E rfl rfl)) ?_
  refine AWL.nil ?_
  refine AW.cond rfl (fun h35t => ?_) (fun h35f => ?_)
  ·
   try replace h35t := of_decide_eq_true h35t
   refine AW.skip ?_
   refine AW.cond rfl (fun h36t => ?_) (fun h36f => ?_)
   ·
    try replace h36t := of_decide_eq_true h36t
    refine AW.regionH (HeldBox b1 (insVals i)) rfl (tells_box (k := 2) rfl) ?_
    refine AWH.tk (i := 0) rfl rfl rfl (B rfl) (heldAll (freeMove rfl (E rfl rfl))) ?_
    refine AWH.tk (i := 1) rfl rfl rfl (B rfl) (heldAll (freeField rfl fo_23_1 (E rfl rfl))) ?_
    refine AWH.tk (i := 2) rfl rfl rfl (B rfl) (heldLoad rfl ag_3 (E rfl rfl) rfl) ?_
    refine AWH.tk (i := 4) rfl rfl rfl (B rfl) (heldAll (freeMove rfl (E rfl rfl))) ?_
    refine AWH.tk (i := 7) rfl rfl rfl (B rfl) (heldAll (freeMove rfl (E rfl rfl))) ?_
    refine AWH.tk (i := 8) rfl rfl rfl (B rfl) (heldAll (freeField rfl fo_23_1 (E rfl rfl))) ?_
    refine AWH.tk (i := 9) rfl rfl rfl (B rfl) (heldLoad rfl ag_3 (E rfl rfl) rfl) ?_
    refine AWH.two (i := 3) (j := 5) (by kernel_rfl) rfl rfl ?_ ?_
    ·
     refine AWL.call rfl rfl (B rfl) rfl ce_27 (E rfl rfl) (evsC (E rfl rfl) (evsC (E rfl rfl) (evsC (E rfl rfl) (evsC (E rfl rfl) evs0)))) (S1 := CB _ _ _ _) (S2 := [_]) rfl (rex34 _ _ _ _ _ _ _) ?_
     rintro t80 S80 ⟨rfl, A80, c80, rfl⟩
     refine tb 2 rfl ?_
     refine AWH.one (i := 5) (by kernel_rfl) rfl ?_
     refine AWL.buildSlice1 rfl rfl (B rfl) rfl el_43 rfl (evsC (E rfl rfl) evs0) (Nat.le_of_ble_eq_true rfl) rfl rfl ?_
     refine tb 2 rfl ?_
     refine AWH.one (i := 6) (by kernel_rfl) rfl ?_
     refine AWL.call rfl rfl (B rfl) rfl ce_28 (E rfl rfl) (evsC (E rfl rfl) (evsC (E rfl rfl) evs0)) (S1 := CB _ _ _ _) (S2 := [_]) rfl (put35 _ _ _ _ [_]) ?_
     rintro t83 S83 ⟨rfl, A83, c83, rfl⟩
     refine tb 2 rfl ?_
     refine AWH.one (i := 10) (by kernel_rfl) rfl ?_
     refine AWL.call rfl rfl (B rfl) rfl ce_29 (E rfl rfl) (evsC (E rfl rfl) (evsC (E rfl rfl) (evsC (E rfl rfl) evs0))) (S1 := CB _ _ _ _) (S2 := [_]) rfl (two36 _ _ _ _ _ _) ?_
     rintro t87 S87 ⟨rfl, A87, c87, rfl⟩
     refine tb 2 rfl ?_
     refine AWH.done (by kernel_rfl) ?_
     refine AW.rseq ?_
     refine AWL.y rfl rfl (B rfl) (Yv.move rfl (E rfl rfl)) ?_
     refine AWL.y rfl rfl (B rfl) (Yv.nilChk rfl (E rfl rfl)) ?_
     refine AWL.y rfl rfl (B rfl) (Yv.fieldBox rfl fo_49_0 (E rfl rfl)) ?_
     refine AWL.y rfl rfl (B rfl) (Yv.loadBox rfl ag_24 (i := 1) rfl (E rfl rfl) rfl) ?_
     refine AWL.y rfl rfl (B rfl) (Yv.assign rfl (E rfl rfl)) ?_
     refine AWL.y rfl rfl (B rfl) (Yv.assign rfl (E rfl rfl)) ?_
     refine AWL.nil ?_
     refine AW.drop (List.take_sublist 1 _) ?_
     refine AW.ret (retI (.tmp rfl (.tmp rfl .nil)) ?_)
     rw [if_pos hval]
     refine enc_end ?_
     rw [enc2 (by rw [h35t]; rfl)]
     skip
     try simp only [List.append_assoc]
     rfl
    ·
     refine AWL.buildSlice1 rfl rfl (B rfl) rfl el_43 rfl (evsC (E rfl rfl) evs0) (Nat.le_of_ble_eq_true rfl) rfl rfl ?_
     refine tb 2 rfl ?_
     refine AWH.one (i := 3) (by kernel_rfl) rfl ?_
     refine AWL.call rfl rfl (B rfl) rfl ce_27 (E rfl rfl) (evsC (E rfl rfl) (evsC (E rfl rfl) (evsC (E rfl rfl) (evsC (E rfl rfl) evs0)))) (S1 := CB _ _ _ _) (S2 := [_]) rfl (rex34 _ _ _ _ _ _ _) ?_
     rintro t80 S80 ⟨rfl, A80, c80, rfl⟩
     refine tb 2 rfl ?_
     refine AWH.one (i := 6) (by kernel_rfl) rfl ?_
     refine AWL.call rfl rfl (B rfl) rfl ce_28 (E rfl rfl) (evsC (E rfl rfl) (evsC (E rfl rfl) evs0)) (S1 := CB _ _ _ _) (S2 := [_]) rfl (put35 _ _ _ _ [_]) ?_
     rintro t83 S83 ⟨rfl, A83, c83, rfl⟩
     refine tb 2 rfl ?_
     refine AWH.one (i := 10) (by kernel_rfl) rfl ?_
     refine AWL.call rfl rfl (B rfl) rfl ce_29 (E rfl rfl) (evsC (E rfl rfl) (evsC (E rfl rfl) (evsC (E rfl rfl) evs0))) (S1 := CB _ _ _ _) (S2 := [_]) rfl (two36 _ _ _ _ _ _) ?_
     rintro t87 S87 ⟨rfl, A87, c87, rfl⟩
     refine tb 2 rfl ?_
     refine AWH.done (by kernel_rfl) ?_
     refine AW.rseq ?_
     refine AWL.y rfl rfl (B rfl) (Yv.move rfl (E rfl rfl)) ?_
     refine AWL.y rfl rfl (B rfl) (Yv.nilChk rfl (E rfl rfl)) ?_
     refine AWL.y rfl rfl (B rfl) (Yv.fieldBox rfl fo_49_0 (E rfl rfl)) ?_
     refine AWL.y rfl rfl (B rfl) (Yv.loadBox rfl ag_24 (i := 1) rfl (E rfl rfl) rfl) ?_
     refine AWL.y rfl rfl (B rfl) (Yv.assign rfl (E rfl rfl)) ?_
     refine AWL.y rfl rfl (B rfl) (Yv.assign rfl (E rfl rfl)) ?_
     refine AWL.nil ?_
     refine AW.drop (List.take_sublist 1 _) ?_
     refine AW.ret (retI (.tmp rfl (.tmp rfl .nil)) ?_)
     rw [if_pos hval]
     refine enc_end ?_
     rw [enc2 (by rw [h35t]; rfl)]
     skip
     try simp only [List.append_assoc]
     rfl
   · exfalso; replace h36f := of_decide_eq_false h36f; omega
  try replace h35f := of_decide_eq_false h35f
  refine AW.rseq ?_
  refine AWL.y rfl rfl (B rfl) (Yv.eql rfl (E rfl rfl) (E rfl rfl)) ?_
  refine AWL.y rfl rfl (B rfl) (Yv.assign rfl (E rfl rfl)) ?_
  refine AWL.nil ?_
  refine AW.cond rfl (fun h37t => ?_) (fun h37f => ?_)
  ·
   try replace h37t := of_decide_eq_true h37t
   refine AW.skip ?_
   refine AW.cond rfl (fun h38t => ?_) (fun h38f => ?_)
   ·
    try replace h38t := of_decide_eq_true h38t
    refine AW.regionH (HeldBox b1 (insVals i)) rfl (tells_box (k := 2) rfl) ?_
    refine AWH.tk (i := 0) rfl rfl rfl (B rfl) (heldAll (freeMove rfl (E rfl rfl))) ?_
    refine AWH.tk (i := 1) rfl rfl rfl (B rfl) (heldAll (freeField rfl fo_23_1 (E rfl rfl))) ?_
    refine AWH.tk (i := 2) rfl rfl rfl (B rfl) (heldLoad rfl ag_3 (E rfl rfl) rfl) ?_
    refine AWH.tk (i := 4) rfl rfl rfl (B rfl) (heldAll (freeMove rfl (E rfl rfl))) ?_
    refine AWH.tk (i := 7) rfl rfl rfl (B rfl) (heldAll (freeMove rfl (E rfl rfl))) ?_
    refine AWH.tk (i := 8) rfl rfl rfl (B rfl) (heldAll (freeField rfl fo_23_1 (E rfl rfl))) ?_
    refine AWH.tk (i := 9) rfl rfl rfl (B rfl) (heldLoad rfl ag_3 (E rfl rfl) rfl) ?_
    refine AWH.two (i := 3) (j := 5) (by kernel_rfl) rfl rfl ?_ ?_
    ·
     refine AWL.call rfl rfl (B rfl) rfl ce_27 (E rfl rfl) (evsC (E rfl rfl) (evsC (E rfl rfl) (evsC (E rfl rfl) (evsC (E rfl rfl) evs0)))) (S1 := CB _ _ _ _) (S2 := [_]) rfl (rex34 _ _ _ _ _ _ _) ?_
     rintro t80 S80 ⟨rfl, A80, c80, rfl⟩
     refine tb 2 rfl ?_
     refine AWH.one (i := 5) (by kernel_rfl) rfl ?_
     refine AWL.buildSlice1 rfl rfl (B rfl) rfl el_43 rfl (evsC (E rfl rfl) evs0) (Nat.le_of_ble_eq_true rfl) rfl rfl ?_
     refine tb 2 rfl ?_
     refine AWH.one (i := 6) (by kernel_rfl) rfl ?_
     refine AWL.call rfl rfl (B rfl) rfl ce_28 (E rfl rfl) (evsC (E rfl rfl) (evsC (E rfl rfl) evs0)) (S1 := CB _ _ _ _) (S2 := [_]) rfl (put35 _ _ _ _ [_]) ?_
     rintro t83 S83 ⟨rfl, A83, c83, rfl⟩
     refine tb 2 rfl ?_
     refine AWH.one (i := 10) (by kernel_rfl) rfl ?_
     refine AWL.call rfl rfl (B rfl) rfl ce_29 (E rfl rfl) (evsC (E rfl rfl) (evsC (E rfl rfl) (evsC (E rfl rfl) evs0))) (S1 := CB _ _ _ _) (S2 := [_]) rfl (two36 _ _ _ _ _ _) ?_
     rintro t87 S87 ⟨rfl, A87, c87, rfl⟩
     refine tb 2 rfl ?_
     refine AWH.done (by kernel_rfl) ?_
     refine AW.rseq ?_
     refine AWL.y rfl rfl (B rfl) (Yv.move rfl (E rfl rfl)) ?_
     refine AWL.y rfl rfl (B rfl) (Yv.nilChk rfl (E rfl rfl)) ?_
     refine AWL.y rfl rfl (B rfl) (Yv.fieldBox rfl fo_49_0 (E rfl rfl)) ?_
     refine AWL.y rfl rfl (B rfl) (Yv.loadBox rfl ag_24 (i := 1) rfl (E rfl rfl) rfl) ?_
     refine AWL.y rfl rfl (B rfl) (Yv.assign rfl (E rfl rfl)) ?_
     refine AWL.y rfl rfl (B rfl) (Yv.assign rfl (E rfl rfl)) ?_
     refine AWL.nil ?_
     refine AW.drop (List.take_sublist 1 _) ?_
     refine AW.ret (retI (.tmp rfl (.tmp rfl .nil)) ?_)
     rw [if_pos hval]
     refine enc_end ?_
     rw [enc2 (by rw [h37t]; rfl)]
     skip
     try simp only [List.append_assoc]
     rfl
    ·
     refine AWL.buildSlice1 rfl rfl (B rfl) rfl el_43 rfl (evsC (E rfl rfl) evs0) (Nat.le_of_ble_eq_true rfl) rfl rfl ?_
     refine tb 2 rfl ?_
     refine AWH.one (i := 3) (by kernel_rfl) rfl ?_
     refine AWL.call rfl rfl (B rfl) rfl ce_27 (E rfl rfl) (evsC (E rfl rfl) (evsC (E rfl rfl) (evsC (E rfl rfl) (evsC (E rfl rfl) evs0)))) (S1 := CB _ _ _ _) (S2 := [_]) rfl (rex34 _ _ _ _ _ _ _) ?_
     rintro t80 S80 ⟨rfl, A80, c80, rfl⟩
     refine tb 2 rfl ?_
     refine AWH.one (i := 6) (by kernel_rfl) rfl ?_
     refine AWL.call rfl rfl (B rfl) rfl ce_28 (E rfl rfl) (evsC (E rfl rfl) (evsC (E rfl rfl) evs0)) (S1 := CB _ _ _ _) (S2 := [_]) rfl (put35 _ _ _ _ [_]) ?_
     rintro t83 S83 ⟨rfl, A83, c83, rfl⟩
     refine tb 2 rfl ?_
     refine AWH.one (i := 10) (by kernel_rfl) rfl ?_
     refine AWL.call rfl rfl (B rfl) rfl ce_29 (E rfl rfl) (evsC (E rfl rfl) (evsC (E rfl rfl) (evsC (E rfl rfl) evs0))) (S1 := CB _ _ _ _) (S2 := [_]) rfl (two36 _ _ _ _ _ _) ?_
     rintro t87 S87 ⟨rfl, A87, c87, rfl⟩
     refine tb 2 rfl ?_
     refine AWH.done (by kernel_rfl) ?_
     refine AW.rseq ?_
     refine AWL.y rfl rfl (B rfl) (Yv.move rfl (E rfl rfl)) ?_
     refine AWL.y rfl rfl (B rfl) (Yv.nilChk rfl (E rfl rfl)) ?_
     refine AWL.y rfl rfl (B rfl) (Yv.fieldBox rfl fo_49_0 (E rfl rfl)) ?_
     refine AWL.y rfl rfl (B rfl) (Yv.loadBox rfl ag_24 (i := 1) rfl (E rfl rfl) rfl) ?_
     refine AWL.y rfl rfl (B rfl) (Yv.assign rfl (E rfl rfl)) ?_
     refine AWL.y rfl rfl (B rfl) (Yv.assign rfl (E rfl rfl)) ?_
     refine AWL.nil ?_
     refine AW.drop (List.take_sublist 1 _) ?_
     refine AW.ret (retI (.tmp rfl (.tmp rfl .nil)) ?_)
     rw [if_pos hval]
     refine enc_end ?_
     rw [enc2 (by rw [h37t]; rfl)]
     skip
     try simp only [List.append_assoc]
     rfl
   · exfalso; replace h38f := of_decide_eq_false h38f; omega
  try replace h37f := of_decide_eq_false h37f
  refine AW.rseq ?_
  refine AWL.y rfl rfl (B rfl) (Yv.eql rfl (E rfl rfl) (E rfl rfl)) ?_
  refine AWL.y rfl rfl (B rfl) (Yv.assign rfl (E rfl rfl)) ?_
  refine AWL.nil ?_
  refine AW.cond rfl (fun h39t => ?_) (fun h39f => ?_)
  ·
   try replace h39t := of_decide_eq_true h39t
   refine AW.skip ?_
   refine AW.cond rfl (fun h40t => ?_) (fun h40f => ?_)
   ·
    try replace h40t := of_decide_eq_true h40t
    refine AW.regionH (HeldBox b1 (insVals i)) rfl (tells_box (k := 2) rfl) ?_
    refine AWH.tk (i := 0) rfl rfl rfl (B rfl) (heldAll (freeMove rfl (E rfl rfl))) ?_
    refine AWH.tk (i := 1) rfl rfl rfl (B rfl) (heldAll (freeField rfl fo_23_1 (E rfl rfl))) ?_
    refine AWH.tk (i := 2) rfl rfl rfl (B rfl) (heldLoad rfl ag_3 (E rfl rfl) rfl) ?_
    refine AWH.tk (i := 4) rfl rfl rfl (B rfl) (heldAll (freeMove rfl (E rfl rfl))) ?_
    refine AWH.tk (i := 7) rfl rfl rfl (B rfl) (heldAll (freeMove rfl (E rfl rfl))) ?_
    refine AWH.tk (i := 8) rfl rfl rfl (B rfl) (heldAll (freeField rfl fo_23_1 (E rfl rfl))) ?_
    refine AWH.tk (i := 9) rfl rfl rfl (B rfl) (heldLoad rfl ag_3 (E rfl rfl) rfl) ?_
    refine AWH.two (i := 3) (j := 5) (by kernel_rfl) rfl rfl ?_ ?_
    ·
     refine AWL.call rfl rfl (B rfl) rfl ce_27 (E rfl rfl) (evsC (E rfl rfl) (evsC (E rfl rfl) (evsC (E rfl rfl) (evsC (E rfl rfl) evs0)))) (S1 := CB _ _ _ _) (S2 := [_]) rfl (rex34 _ _ _ _ _ _ _) ?_
     rintro t80 S80 ⟨rfl, A80, c80, rfl⟩
     refine tb 2 rfl ?_
     refine AWH.one (i := 5) (by kernel_rfl) rfl ?_
     refine AWL.buildSlice1 rfl rfl (B rfl) rfl el_43 rfl (evsC (E rfl rfl) evs0) (Nat.le_of_ble_eq_true rfl) rfl rfl ?_
     refine tb 2 rfl ?_
     refine AWH.one (i := 6) (by kernel_rfl) rfl ?_
     refine AWL.call rfl rfl (B rfl) rfl ce_28 (E rfl rfl) (evsC (E rfl rfl) (evsC (E rfl rfl) evs0)) (S1 := CB _ _ _ _) (S2 := [_]) rfl (put35 _ _ _ _ [_]) ?_
     rintro t83 S83 ⟨rfl, A83, c83, rfl⟩
     refine tb 2 rfl ?_
     refine AWH.one (i := 10) (by kernel_rfl) rfl ?_
     refine AWL.call rfl rfl (B rfl) rfl ce_29 (E rfl rfl) (evsC (E rfl rfl) (evsC (E rfl rfl) (evsC (E rfl rfl) evs0))) (S1 := CB _ _ _ _) (S2 := [_]) rfl (two36 _ _ _ _ _ _) ?_
     rintro t87 S87 ⟨rfl, A87, c87, rfl⟩
     refine tb 2 rfl ?_
     refine AWH.done (by kernel_rfl) ?_
     refine AW.rseq ?_
     refine AWL.y rfl rfl (B rfl) (Yv.move rfl (E rfl rfl)) ?_
     refine AWL.y rfl rfl (B rfl) (Yv.nilChk rfl (E rfl rfl)) ?_
     refine AWL.y rfl rfl (B rfl) (Yv.fieldBox rfl fo_49_0 (E rfl rfl)) ?_
     refine AWL.y rfl rfl (B rfl) (Yv.loadBox rfl ag_24 (i := 1) rfl (E rfl rfl) rfl) ?_
     refine AWL.y rfl rfl (B rfl) (Yv.assign rfl (E rfl rfl)) ?_
     refine AWL.y rfl rfl (B rfl) (Yv.assign rfl (E rfl rfl)) ?_
     refine AWL.nil ?_
     refine AW.drop (List.take_sublist 1 _) ?_
     refine AW.ret (retI (.tmp rfl (.tmp rfl .nil)) ?_)
     rw [if_pos hval]
     refine enc_end ?_
     rw [enc2 (by rw [h39t]; rfl)]
     skip
     try simp only [List.append_assoc]
     rfl
    ·
     refine AWL.buildSlice1 rfl rfl (B rfl) rfl el_43 rfl (evsC (E rfl rfl) evs0) (Nat.le_of_ble_eq_true rfl) rfl rfl ?_
     refine tb 2 rfl ?_
     refine AWH.one (i := 3) (by kernel_rfl) rfl ?_
     refine AWL.call rfl rfl (B rfl) rfl ce_27 (E rfl rfl) (evsC (E rfl rfl) (evsC (E rfl rfl) (evsC (E rfl rfl) (evsC (E rfl rfl) evs0)))) (S1 := CB _ _ _ _) (S2 := [_]) rfl (rex34 _ _ _ _ _ _ _) ?_
     rintro t80 S80 ⟨rfl, A80, c80, rfl⟩
     refine tb 2 rfl ?_
     refine AWH.one (i := 6) (by kernel_rfl) rfl ?_
     refine AWL.call rfl rfl (B rfl) rfl ce_28 (E rfl rfl) (evsC (E rfl rfl) (evsC (E rfl rfl) evs0)) (S1 := CB _ _ _ _) (S2 := [_]) rfl (put35 _ _ _ _ [_]) ?_
     rintro t83 S83 ⟨rfl, A83, c83, rfl⟩
     refine tb 2 rfl ?_
     refine AWH.one (i := 10) (by kernel_rfl) rfl ?_
     refine AWL.call rfl rfl (B rfl) rfl ce_29 (E rfl rfl) (evsC (E rfl rfl) (evsC (E rfl rfl) (evsC (E rfl rfl) evs0))) (S1 := CB _ _ _ _) (S2 := [_]) rfl (two36 _ _ _ _ _ _) ?_
     rintro t87 S87 ⟨rfl, A87, c87, rfl⟩
     refine tb 2 rfl ?_
     refine AWH.done (by kernel_rfl) ?_
     refine AW.rseq ?_
     refine AWL.y rfl rfl (B rfl) (Yv.move rfl (E rfl rfl)) ?_
     refine AWL.y rfl rfl (B rfl) (Yv.nilChk rfl (E rfl rfl)) ?_
     refine AWL.y rfl rfl (B rfl) (Yv.fieldBox rfl fo_49_0 (E rfl rfl)) ?_
     refine AWL.y rfl rfl (B rfl) (Yv.loadBox rfl ag_24 (i := 1) rfl (E rfl rfl) rfl) ?_
     refine AWL.y rfl rfl (B rfl) (Yv.assign rfl (E rfl rfl)) ?_
     refine AWL.y rfl rfl (B rfl) (Yv.assign rfl (E rfl rfl)) ?_
     refine AWL.nil ?_
     refine AW.drop (List.take_sublist 1 _) ?_
     refine AW.ret (retI (.tmp rfl (.tmp rfl .nil)) ?_)
     rw [if_pos hval]
     refine enc_end ?_
     rw [enc2 (by rw [h39t]; rfl)]
     skip
     try simp only [List.append_assoc]
     rfl
   · exfalso; replace h40f := of_decide_eq_false h40f; omega
  try replace h39f := of_decide_eq_false h39f
  refine AW.rseq ?_
  refine AWL.y rfl rfl (B rfl) (Yv.eql rfl (E rfl rfl) (E rfl rfl)) ?_
  refine AWL.y rfl rfl (B rfl) (Yv.assign rfl (E rfl rfl)) ?_
  refine AWL.nil ?_
  refine AW.cond rfl (fun h41t => ?_) (fun h41f => ?_)
  ·
   try replace h41t := of_decide_eq_true h41t
   refine AW.skip ?_
   refine AW.cond rfl (fun h42t => ?_) (fun h42f => ?_)
   ·
    try replace h42t := of_decide_eq_true h42t
    refine AW.regionH (HeldBox b1 (insVals i)) rfl (tells_box (k := 2) rfl) ?_
    refine AWH.tk (i := 0) rfl rfl rfl (B rfl) (heldAll (freeMove rfl (E rfl rfl))) ?_
    refine AWH.tk (i := 1) rfl rfl rfl (B rfl) (heldAll (freeField rfl fo_23_1 (E rfl rfl))) ?_
    refine AWH.tk (i := 2) rfl rfl rfl (B rfl) (heldLoad rfl ag_3 (E rfl rfl) rfl) ?_
    refine AWH.tk (i := 4) rfl rfl rfl (B rfl) (heldAll (freeMove rfl (E rfl rfl))) ?_
    refine AWH.tk (i := 7) rfl rfl rfl (B rfl) (heldAll (freeMove rfl (E rfl rfl))) ?_
    refine AWH.tk (i := 8) rfl rfl rfl (B rfl) (heldAll (freeField rfl fo_23_1 (E rfl rfl))) ?_
    refine AWH.tk (i := 9) rfl rfl rfl (B rfl) (heldLoad rfl ag_3 (E rfl rfl) rfl) ?_
    refine AWH.two (i := 3) (j := 5) (by kernel_rfl) rfl rfl ?_ ?_
    ·
     refine AWL.call rfl rfl (B rfl) rfl ce_27 (E rfl rfl) (evsC (E rfl rfl) (evsC (E rfl rfl) (evsC (E rfl rfl) (evsC (E rfl rfl) evs0)))) (S1 := CB _ _ _ _) (S2 := [_]) rfl (rex34 _ _ _ _ _ _ _) ?_
     rintro t80 S80 ⟨rfl, A80, c80, rfl⟩
     refine tb 2 rfl ?_
     refine AWH.one (i := 5) (by kernel_rfl) rfl ?_
     refine AWL.buildSlice1 rfl rfl (B rfl) rfl el_43 rfl (evsC (E rfl rfl) evs0) (Nat.le_of_ble_eq_true rfl) rfl rfl ?_
     refine tb 2 rfl ?_
     refine AWH.one (i := 6) (by kernel_rfl) rfl ?_
     refine AWL.call rfl rfl (B rfl) rfl ce_28 (E rfl rfl) (evsC (E rfl rfl) (evsC (E rfl rfl) evs0)) (S1 := CB _ _ _ _) (S2 := [_]) rfl (put35 _ _ _ _ [_]) ?_
     rintro t83 S83 ⟨rfl, A83, c83, rfl⟩
     refine tb 2 rfl ?_
     refine AWH.one (i := 10) (by kernel_rfl) rfl ?_
     refine AWL.call rfl rfl (B rfl) rfl ce_29 (E rfl rfl) (evsC (E rfl rfl) (evsC (E rfl rfl) (evsC (E rfl rfl) evs0))) (S1 := CB _ _ _ _) (S2 := [_]) rfl (two36 _ _ _ _ _ _) ?_
     rintro t87 S87 ⟨rfl, A87, c87, rfl⟩
     refine tb 2 rfl ?_
     refine AWH.done (by kernel_rfl) ?_
     refine AW.rseq ?_
     refine AWL.y rfl rfl (B rfl) (Yv.move rfl (E rfl rfl)) ?_
     refine AWL.y rfl rfl (B rfl) (Yv.nilChk rfl (E rfl rfl)) ?_
     refine AWL.y rfl rfl (B rfl) (Yv.fieldBox rfl fo_49_0 (E rfl rfl)) ?_
     refine AWL.y rfl rfl (B rfl) (Yv.loadBox rfl ag_24 (i := 1) rfl (E rfl rfl) rfl) ?_
     refine AWL.y rfl rfl (B rfl) (Yv.assign rfl (E rfl rfl)) ?_
     refine AWL.y rfl rfl (B rfl) (Yv.assign rfl (E rfl rfl)) ?_
     refine AWL.nil ?_
     refine AW.drop (List.take_sublist 1 _) ?_
     refine AW.ret (retI (.tmp rfl (.tmp rfl .nil)) ?_)
     rw [if_pos hval]
     refine enc_end ?_
     rw [enc2 (by rw [h41t]; rfl)]
     skip
     try simp only [List.append_assoc]
     rfl
    ·
     refine AWL.buildSlice1 rfl rfl (B rfl) rfl el_43 rfl (evsC (E rfl rfl) evs0) (Nat.le_of_ble_eq_true rfl) rfl rfl ?_
     refine tb 2 rfl ?_
     refine AWH.one (i := 3) (by kernel_rfl) rfl ?_
     refine AWL.call rfl rfl (B rfl) rfl ce_27 (E rfl rfl) (evsC (E rfl rfl) (evsC (E rfl rfl) (evsC (E rfl rfl) (evsC (E rfl rfl) evs0)))) (S1 := CB _ _ _ _) (S2 := [_]) rfl (rex34 _ _ _ _ _ _ _) ?_
     rintro t80 S80 ⟨rfl, A80, c80, rfl⟩
     refine tb 2 rfl ?_
     refine AWH.one (i := 6) (by kernel_rfl) rfl ?_
     refine AWL.call rfl rfl (B rfl) rfl ce_28 (E rfl rfl) (evsC (E rfl rfl) (evsC (E rfl rfl) evs0)) (S1 := CB _ _ _ _) (S2 := [_]) rfl (put35 _ _ _ _ [_]) ?_
     rintro t83 S83 ⟨rfl, A83, c83, rfl⟩
     refine tb 2 rfl ?_
     refine AWH.one (i := 10) (by kernel_rfl) rfl ?_
     refine AWL.call rfl rfl (B rfl) rfl ce_29 (E rfl rfl) (evsC (E rfl rfl) (evsC (E rfl rfl) (evsC (E rfl rfl) evs0))) (S1 := CB _ _ _ _) (S2 := [_]) rfl (two36 _ _ _ _ _ _) ?_
     rintro t87 S87 ⟨rfl, A87, c87, rfl⟩
     refine tb 2 rfl ?_
     refine AWH.done (by kernel_rfl) ?_
     refine AW.rseq ?_
     refine AWL.y rfl rfl (B rfl) (Yv.move rfl (E rfl rfl)) ?_
     refine AWL.y rfl rfl (B rfl) (Yv.nilChk rfl (E rfl rfl)) ?_
     refine AWL.y rfl rfl (B rfl) (Yv.fieldBox rfl fo_49_0 (E rfl rfl)) ?_
     refine AWL.y rfl rfl (B rfl) (Yv.loadBox rfl ag_24 (i := 1) rfl (E rfl rfl) rfl) ?_
     refine AWL.y rfl rfl (B rfl) (Yv.assign rfl (E rfl rfl)) ?_
     refine AWL.y rfl rfl (B rfl) (Yv.assign rfl (E rfl rfl)) ?_
     refine AWL.nil ?_
     refine AW.drop (List.take_sublist 1 _) ?_
     refine AW.ret (retI (.tmp rfl (.tmp rfl .nil)) ?_)
     rw [if_pos hval]
     refine enc_end ?_
     rw [enc2 (by rw [h41t]; rfl)]
     skip
     try simp only [List.append_assoc]
     rfl
   · exfalso; replace h42f := of_decide_eq_false h42f; omega
  try replace h41f := of_decide_eq_false h41f
  refine AW.region ?_
  refine AWL.y rfl rfl (B rfl) (Yv.eql rfl (E rfl rfl) (E rfl rfl)) ?_
  refine AWL.y rfl rfl (B rfl) (Yv.assign rfl (E rfl rfl)) ?_
  refine AWL.nil ?_
  refine AW.cond rfl (fun h43t => ?_) (fun h43f => ?_)
  ·
   try replace h43t := of_decide_eq_true h43t
   refine AW.regionH (HeldBox b1 (insVals i)) rfl (tells_box (k := 2) rfl) ?_
   refine AWH.tk (i := 0) rfl rfl rfl (B rfl) (heldAll (freeMove rfl (E rfl rfl))) ?_
   refine AWH.tk (i := 1) rfl rfl rfl (B rfl) (heldAll (freeField rfl fo_23_1 (E rfl rfl))) ?_
   refine AWH.tk (i := 2) rfl rfl rfl (B rfl) (heldLoad rfl ag_3 (E rfl rfl) rfl) ?_
   refine AWH.tk (i := 4) rfl rfl rfl (B rfl) (heldAll (freeMove rfl (E rfl rfl))) ?_
   refine AWH.tk (i := 7) rfl rfl rfl (B rfl) (heldAll (freeMove rfl (E rfl rfl))) ?_
   refine AWH.tk (i := 8) rfl rfl rfl (B rfl) (heldAll (freeField rfl fo_23_1 (E rfl rfl))) ?_
   refine AWH.tk (i := 9) rfl rfl rfl (B rfl) (heldLoad rfl ag_3 (E rfl rfl) rfl) ?_
   refine AWH.two (i := 3) (j := 5) (by kernel_rfl) rfl rfl ?_ ?_
   ·
    refine AWL.call rfl rfl (B rfl) rfl ce_27 (E rfl rfl) (evsC (E rfl rfl) (evsC (E rfl rfl) (evsC (E rfl rfl) (evsC (E rfl rfl) evs0)))) (S1 := CB _ _ _ _) (S2 := [_]) rfl (rex34 _ _ _ _ _ _ _) ?_
    rintro t80 S80 ⟨rfl, A80, c80, rfl⟩
    refine tb 2 rfl ?_
    refine AWH.one (i := 5) (by kernel_rfl) rfl ?_
    refine AWL.buildSlice1 rfl rfl (B rfl) rfl el_43 rfl (evsC (E rfl rfl) evs0) (Nat.le_of_ble_eq_true rfl) rfl rfl ?_
    refine tb 2 rfl ?_
    refine AWH.one (i := 6) (by kernel_rfl) rfl ?_
    refine AWL.call rfl rfl (B rfl) rfl ce_28 (E rfl rfl) (evsC (E rfl rfl) (evsC (E rfl rfl) evs0)) (S1 := CB _ _ _ _) (S2 := [_]) rfl (put35 _ _ _ _ [_]) ?_
    rintro t83 S83 ⟨rfl, A83, c83, rfl⟩
    refine tb 2 rfl ?_
    refine AWH.one (i := 10) (by kernel_rfl) rfl ?_
    refine AWL.call rfl rfl (B rfl) rfl ce_29 (E rfl rfl) (evsC (E rfl rfl) (evsC (E rfl rfl) (evsC (E rfl rfl) evs0))) (S1 := CB _ _ _ _) (S2 := [_]) rfl (two36 _ _ _ _ _ _) ?_
    rintro t87 S87 ⟨rfl, A87, c87, rfl⟩
    refine tb 2 rfl ?_
    refine AWH.done (by kernel_rfl) ?_
    refine AW.rseq ?_
    refine AWL.y rfl rfl (B rfl) (Yv.move rfl (E rfl rfl)) ?_
    refine AWL.y rfl rfl (B rfl) (Yv.nilChk rfl (E rfl rfl)) ?_
    refine AWL.y rfl rfl (B rfl) (Yv.fieldBox rfl fo_49_0 (E rfl rfl)) ?_
    refine AWL.y rfl rfl (B rfl) (Yv.loadBox rfl ag_24 (i := 1) rfl (E rfl rfl) rfl) ?_
    refine AWL.y rfl rfl (B rfl) (Yv.assign rfl (E rfl rfl)) ?_
    refine AWL.y rfl rfl (B rfl) (Yv.assign rfl (E rfl rfl)) ?_
    refine AWL.nil ?_
    refine AW.drop (List.take_sublist 1 _) ?_
    refine AW.ret (retI (.tmp rfl (.tmp rfl .nil)) ?_)
    rw [if_pos hval]
    refine enc_end ?_
    rw [enc2 (by rw [h43t]; rfl)]
    skip
    try simp only [List.append_assoc]
    rfl
   ·
    refine AWL.buildSlice1 rfl rfl (B rfl) rfl el_43 rfl (evsC (E rfl rfl) evs0) (Nat.le_of_ble_eq_true rfl) rfl rfl ?_
    refine tb 2 rfl ?_
    refine AWH.one (i := 3) (by kernel_rfl) rfl ?_
    refine AWL.call rfl rfl (B rfl) rfl ce_27 (E rfl rfl) (evsC (E rfl rfl) (evsC (E rfl rfl) (evsC (E rfl rfl) (evsC (E rfl rfl) evs0)))) (S1 := CB _ _ _ _) (S2 := [_]) rfl (rex34 _ _ _ _ _ _ _) ?_
    rintro t80 S80 ⟨rfl, A80, c80, rfl⟩
    refine tb 2 rfl ?_
    refine AWH.one (i := 6) (by kernel_rfl) rfl ?_
    refine AWL.call rfl rfl (B rfl) rfl ce_28 (E rfl rfl) (evsC (E rfl rfl) (evsC (E rfl rfl) evs0)) (S1 := CB _ _ _ _) (S2 := [_]) rfl (put35 _ _ _ _ [_]) ?_
    rintro t83 S83 ⟨rfl, A83, c83, rfl⟩
    refine tb 2 rfl ?_
    refine AWH.one (i := 10) (by kernel_rfl) rfl ?_
    refine AWL.call rfl rfl (B rfl) rfl ce_29 (E rfl rfl) (evsC (E rfl rfl) (evsC (E rfl rfl) (evsC (E rfl rfl) evs0))) (S1 := CB _ _ _ _) (S2 := [_]) rfl (two36 _ _ _ _ _ _) ?_
    rintro t87 S87 ⟨rfl, A87, c87, rfl⟩
    refine tb 2 rfl ?_
    refine AWH.done (by kernel_rfl) ?_
    refine AW.rseq ?_
    refine AWL.y rfl rfl (B rfl) (Yv.move rfl (E rfl rfl)) ?_
    refine AWL.y rfl rfl (B rfl) (Yv.nilChk rfl (E rfl rfl)) ?_
    refine AWL.y rfl rfl (B rfl) (Yv.fieldBox rfl fo_49_0 (E rfl rfl)) ?_
    refine AWL.y rfl rfl (B rfl) (Yv.loadBox rfl ag_24 (i := 1) rfl (E rfl rfl) rfl) ?_
    refine AWL.y rfl rfl (B rfl) (Yv.assign rfl (E rfl rfl)) ?_
    refine AWL.y rfl rfl (B rfl) (Yv.assign rfl (E rfl rfl)) ?_
    refine AWL.nil ?_
    refine AW.drop (List.take_sublist 1 _) ?_
    refine AW.ret (retI (.tmp rfl (.tmp rfl .nil)) ?_)
    rw [if_pos hval]
    refine enc_end ?_
    rw [enc2 (by rw [h43t]; rfl)]
    skip
    try simp only [List.append_assoc]
    rfl
  try replace h43f := of_decide_eq_false h43f
  refine AW.seq ?_
  refine AW.rseq ?_
  refine AWL.y rfl rfl (B rfl) (Yv.eql rfl (E rfl rfl) (E rfl rfl)) ?_
  refine AWL.y rfl rfl (B rfl) (Yv.assign rfl (E rfl rfl)) ?_
  refine AWL.nil ?_
  refine AW.cond rfl (fun h44t => ?_) (fun h44f => ?_)
  ·
   try replace h44t := of_decide_eq_true h44t
   refine AW.skip ?_
   refine AW.cond rfl (fun h45t => ?_) (fun h45f => ?_)
   ·
    try replace h45t := of_decide_eq_true h45t
    refine AW.regionH (HeldBox b1 (insVals i)) rfl (tells_box (k := 2) rfl) ?_
    refine AWH.tk (i := 0) rfl rfl rfl (B rfl) (heldAll (freeMove rfl (E rfl rfl))) ?_
    refine AWH.tk (i := 1) rfl rfl rfl (B rfl) (heldAll (freeField rfl fo_23_1 (E rfl rfl))) ?_
    refine AWH.tk (i := 2) rfl rfl rfl (B rfl) (heldLoad rfl ag_3 (E rfl rfl) rfl) ?_
    refine AWH.tk (i := 4) rfl rfl rfl (B rfl) (heldAll (freeMove rfl (E rfl rfl))) ?_
    refine AWH.tk (i := 7) rfl rfl rfl (B rfl) (heldAll (freeMove rfl (E rfl rfl))) ?_
    refine AWH.tk (i := 8) rfl rfl rfl (B rfl) (heldAll (freeField rfl fo_23_1 (E rfl rfl))) ?_
    refine AWH.tk (i := 9) rfl rfl rfl (B rfl) (heldLoad rfl ag_3 (E rfl rfl) rfl) ?_
    refine AWH.tk (i := 11) rfl rfl rfl (B rfl) (heldAll (freeField rfl fo_23_5 (E rfl rfl))) ?_
    refine AWH.tk (i := 12) rfl rfl rfl (B rfl) (heldLoad rfl ag_2 (E rfl rfl) rfl) ?_
    refine AWH.two (i := 3) (j := 5) (by kernel_rfl) rfl rfl ?_ ?_
    ·
     refine AWL.call rfl rfl (B rfl) rfl ce_27 (E rfl rfl) (evsC (E rfl rfl) (evsC (E rfl rfl) (evsC (E rfl rfl) (evsC (E rfl rfl) evs0)))) (S1 := CB _ _ _ _) (S2 := [_]) rfl (rex34 _ _ _ _ _ _ _) ?_
     rintro t95 S95 ⟨rfl, A95, c95, rfl⟩
     refine tb 2 rfl ?_
     refine AWH.one (i := 5) (by kernel_rfl) rfl ?_
     refine AWL.buildSlice1 rfl rfl (B rfl) rfl el_43 rfl (evsC (E rfl rfl) evs0) (Nat.le_of_ble_eq_true rfl) rfl rfl ?_
     refine tb 2 rfl ?_
     refine AWH.one (i := 6) (by kernel_rfl) rfl ?_
     refine AWL.call rfl rfl (B rfl) rfl ce_28 (E rfl rfl) (evsC (E rfl rfl) (evsC (E rfl rfl) evs0)) (S1 := CB _ _ _ _) (S2 := [_]) rfl (put35 _ _ _ _ [_]) ?_
     rintro t98 S98 ⟨rfl, A98, c98, rfl⟩
     refine tb 2 rfl ?_
     refine AWH.one (i := 10) (by kernel_rfl) rfl ?_
     refine AWL.call rfl rfl (B rfl) rfl ce_29 (E rfl rfl) (evsC (E rfl rfl) (evsC (E rfl rfl) (evsC (E rfl rfl) evs0))) (S1 := CB _ _ _ _) (S2 := [_]) rfl (two36 _ _ _ _ _ _) ?_
     rintro t102 S102 ⟨rfl, A102, c102, rfl⟩
     refine tb 2 rfl ?_
     refine AWH.one (i := 13) (by kernel_rfl) rfl ?_
     refine AWL.call rfl rfl (B rfl) rfl ce_30 (E rfl rfl) (evsC (E rfl rfl) (evsC (E rfl rfl) (evsC (E rfl rfl) evs0))) (S1 := CB _ _ _ _) (S2 := [_]) rfl (imm37 _ _ _ _ _ 1) ?_
     rintro t105 S105 ⟨rfl, A105, c105, rfl⟩
     refine tb 2 rfl ?_
     refine AWH.done (by kernel_rfl) ?_
     refine AW.rseq ?_
     refine AWL.y rfl rfl (B rfl) (Yv.move rfl (E rfl rfl)) ?_
     refine AWL.y rfl rfl (B rfl) (Yv.nilChk rfl (E rfl rfl)) ?_
     refine AWL.y rfl rfl (B rfl) (Yv.fieldBox rfl fo_49_0 (E rfl rfl)) ?_
     refine AWL.y rfl rfl (B rfl) (Yv.loadBox rfl ag_24 (i := 1) rfl (E rfl rfl) rfl) ?_
     refine AWL.y rfl rfl (B rfl) (Yv.assign rfl (E rfl rfl)) ?_
     refine AWL.y rfl rfl (B rfl) (Yv.assign rfl (E rfl rfl)) ?_
     refine AWL.nil ?_
     refine AW.drop (List.take_sublist 1 _) ?_
     refine AW.ret (retI (.tmp rfl (.tmp rfl .nil)) ?_)
     rw [if_pos hval]
     refine enc_end ?_
     rw [enc3 (by rw [h44t]; rfl)]
     skip
     try simp only [List.append_assoc]
     rfl
    ·
     refine AWL.buildSlice1 rfl rfl (B rfl) rfl el_43 rfl (evsC (E rfl rfl) evs0) (Nat.le_of_ble_eq_true rfl) rfl rfl ?_
     refine tb 2 rfl ?_
     refine AWH.one (i := 3) (by kernel_rfl) rfl ?_
     refine AWL.call rfl rfl (B rfl) rfl ce_27 (E rfl rfl) (evsC (E rfl rfl) (evsC (E rfl rfl) (evsC (E rfl rfl) (evsC (E rfl rfl) evs0)))) (S1 := CB _ _ _ _) (S2 := [_]) rfl (rex34 _ _ _ _ _ _ _) ?_
     rintro t95 S95 ⟨rfl, A95, c95, rfl⟩
     refine tb 2 rfl ?_
     refine AWH.one (i := 6) (by kernel_rfl) rfl ?_
     refine AWL.call rfl rfl (B rfl) rfl ce_28 (E rfl rfl) (evsC (E rfl rfl) (evsC (E rfl rfl) evs0)) (S1 := CB _ _ _ _) (S2 := [_]) rfl (put35 _ _ _ _ [_]) ?_
     rintro t98 S98 ⟨rfl, A98, c98, rfl⟩
     refine tb 2 rfl ?_
     refine AWH.one (i := 10) (by kernel_rfl) rfl ?_
     refine AWL.call rfl rfl (B rfl) rfl ce_29 (E rfl rfl) (evsC (E rfl rfl) (evsC (E rfl rfl) (evsC (E rfl rfl) evs0))) (S1 := CB _ _ _ _) (S2 := [_]) rfl (two36 _ _ _ _ _ _) ?_
     rintro t102 S102 ⟨rfl, A102, c102, rfl⟩
     refine tb 2 rfl ?_
     refine AWH.one (i := 13) (by kernel_rfl) rfl ?_
     refine AWL.call rfl rfl (B rfl) rfl ce_30 (E rfl rfl) (evsC (E rfl rfl) (evsC (E rfl rfl) (evsC (E rfl rfl) evs0))) (S1 := CB _ _ _ _) (S2 := [_]) rfl (imm37 _ _ _ _ _ 1) ?_
     rintro t105 S105 ⟨rfl, A105, c105, rfl⟩
     refine tb 2 rfl ?_
     refine AWH.done (by kernel_rfl) ?_
     refine AW.rseq ?_
     refine AWL.y rfl rfl (B rfl) (Yv.move rfl (E rfl rfl)) ?_
     refine AWL.y rfl rfl (B rfl) (Yv.nilChk rfl (E rfl rfl)) ?_
     refine AWL.y rfl rfl (B rfl) (Yv.fieldBox rfl fo_49_0 (E rfl rfl)) ?_
     refine AWL.y rfl rfl (B rfl) (Yv.loadBox rfl ag_24 (i := 1) rfl (E rfl rfl) rfl) ?_
     refine AWL.y rfl rfl (B rfl) (Yv.assign rfl (E rfl rfl)) ?_
     refine AWL.y rfl rfl (B rfl) (Yv.assign rfl (E rfl rfl)) ?_
     refine AWL.nil ?_
     refine AW.drop (List.take_sublist 1 _) ?_
     refine AW.ret (retI (.tmp rfl (.tmp rfl .nil)) ?_)
     rw [if_pos hval]
     refine enc_end ?_
     rw [enc3 (by rw [h44t]; rfl)]
     skip
     try simp only [List.append_assoc]
     rfl
   · exfalso; replace h45f := of_decide_eq_false h45f; omega
  try replace h44f := of_decide_eq_false h44f
  refine AW.rseq ?_
  refine AWL.y rfl rfl (B rfl) (Yv.eql rfl (E rfl rfl) (E rfl rfl)) ?_
  refine AWL.y rfl rfl (B rfl) (Yv.assign rfl (E rfl rfl)) ?_
  refine AWL.nil ?_
  refine AW.cond rfl (fun h46t => ?_) (fun h46f => ?_)
  ·
   try replace h46t := of_decide_eq_true h46t
   refine AW.skip ?_
   refine AW.cond rfl (fun h47t => ?_) (fun h47f => ?_)
   ·
    try replace h47t := of_decide_eq_true h47t
    refine AW.regionH (HeldBox b1 (insVals i)) rfl (tells_box (k := 2) rfl) ?_
    refine AWH.tk (i := 0) rfl rfl rfl (B rfl) (heldAll (freeMove rfl (E rfl rfl))) ?_
    refine AWH.tk (i := 1) rfl rfl rfl (B rfl) (heldAll (freeField rfl fo_23_1 (E rfl rfl))) ?_
    refine AWH.tk (i := 2) rfl rfl rfl (B rfl) (heldLoad rfl ag_3 (E rfl rfl) rfl) ?_
    refine AWH.tk (i := 4) rfl rfl rfl (B rfl) (heldAll (freeMove rfl (E rfl rfl))) ?_
    refine AWH.tk (i := 7) rfl rfl rfl (B rfl) (heldAll (freeMove rfl (E rfl rfl))) ?_
    refine AWH.tk (i := 8) rfl rfl rfl (B rfl) (heldAll (freeField rfl fo_23_1 (E rfl rfl))) ?_
    refine AWH.tk (i := 9) rfl rfl rfl (B rfl) (heldLoad rfl ag_3 (E rfl rfl) rfl) ?_
    refine AWH.tk (i := 11) rfl rfl rfl (B rfl) (heldAll (freeField rfl fo_23_5 (E rfl rfl))) ?_
    refine AWH.tk (i := 12) rfl rfl rfl (B rfl) (heldLoad rfl ag_2 (E rfl rfl) rfl) ?_
    refine AWH.two (i := 3) (j := 5) (by kernel_rfl) rfl rfl ?_ ?_
    ·
     refine AWL.call rfl rfl (B rfl) rfl ce_27 (E rfl rfl) (evsC (E rfl rfl) (evsC (E rfl rfl) (evsC (E rfl rfl) (evsC (E rfl rfl) evs0)))) (S1 := CB _ _ _ _) (S2 := [_]) rfl (rex34 _ _ _ _ _ _ _) ?_
     rintro t95 S95 ⟨rfl, A95, c95, rfl⟩
     refine tb 2 rfl ?_
     refine AWH.one (i := 5) (by kernel_rfl) rfl ?_
     refine AWL.buildSlice1 rfl rfl (B rfl) rfl el_43 rfl (evsC (E rfl rfl) evs0) (Nat.le_of_ble_eq_true rfl) rfl rfl ?_
     refine tb 2 rfl ?_
     refine AWH.one (i := 6) (by kernel_rfl) rfl ?_
     refine AWL.call rfl rfl (B rfl) rfl ce_28 (E rfl rfl) (evsC (E rfl rfl) (evsC (E rfl rfl) evs0)) (S1 := CB _ _ _ _) (S2 := [_]) rfl (put35 _ _ _ _ [_]) ?_
     rintro t98 S98 ⟨rfl, A98, c98, rfl⟩
     refine tb 2 rfl ?_
     refine AWH.one (i := 10) (by kernel_rfl) rfl ?_
     refine AWL.call rfl rfl (B rfl) rfl ce_29 (E rfl rfl) (evsC (E rfl rfl) (evsC (E rfl rfl) (evsC (E rfl rfl) evs0))) (S1 := CB _ _ _ _) (S2 := [_]) rfl (two36 _ _ _ _ _ _) ?_
     rintro t102 S102 ⟨rfl, A102, c102, rfl⟩
     refine tb 2 rfl ?_
     refine AWH.one (i := 13) (by kernel_rfl) rfl ?_
     refine AWL.call rfl rfl (B rfl) rfl ce_30 (E rfl rfl) (evsC (E rfl rfl) (evsC (E rfl rfl) (evsC (E rfl rfl) evs0))) (S1 := CB _ _ _ _) (S2 := [_]) rfl (imm37 _ _ _ _ _ 1) ?_
     rintro t105 S105 ⟨rfl, A105, c105, rfl⟩
     refine tb 2 rfl ?_
     refine AWH.done (by kernel_rfl) ?_
     refine AW.rseq ?_
     refine AWL.y rfl rfl (B rfl) (Yv.move rfl (E rfl rfl)) ?_
     refine AWL.y rfl rfl (B rfl) (Yv.nilChk rfl (E rfl rfl)) ?_
     refine AWL.y rfl rfl (B rfl) (Yv.fieldBox rfl fo_49_0 (E rfl rfl)) ?_
     refine AWL.y rfl rfl (B rfl) (Yv.loadBox rfl ag_24 (i := 1) rfl (E rfl rfl) rfl) ?_
     refine AWL.y rfl rfl (B rfl) (Yv.assign rfl (E rfl rfl)) ?_
     refine AWL.y rfl rfl (B rfl) (Yv.assign rfl (E rfl rfl)) ?_
     refine AWL.nil ?_
     refine AW.drop (List.take_sublist 1 _) ?_
     refine AW.ret (retI (.tmp rfl (.tmp rfl .nil)) ?_)
     rw [if_pos hval]
     refine enc_end ?_
     rw [enc3 (by rw [h46t]; rfl)]
     skip
     try simp only [List.append_assoc]
     rfl
    ·
     refine AWL.buildSlice1 rfl rfl (B rfl) rfl el_43 rfl (evsC (E rfl rfl) evs0) (Nat.le_of_ble_eq_true rfl) rfl rfl ?_
     refine tb 2 rfl ?_
     refine AWH.one (i := 3) (by kernel_rfl) rfl ?_
     refine AWL.call rfl rfl (B rfl) rfl ce_27 (E rfl rfl) (evsC (E rfl rfl) (evsC (E rfl rfl) (evsC (E rfl rfl) (evsC (E rfl rfl) evs0)))) (S1 := CB _ _ _ _) (S2 := [_]) rfl (rex34 _ _ _ _ _ _ _) ?_
     rintro t95 S95 ⟨rfl, A95, c95, rfl⟩
     refine tb 2 rfl ?_
     refine AWH.one (i := 6) (by kernel_rfl) rfl ?_
     refine AWL.call rfl rfl (B rfl) rfl ce_28 (E rfl rfl) (evsC (E rfl rfl) (evsC (E rfl rfl) evs0)) (S1 := CB _ _ _ _) (S2 := [_]) rfl (put35 _ _ _ _ [_]) ?_
     rintro t98 S98 ⟨rfl, A98, c98, rfl⟩
     refine tb 2 rfl ?_
     refine AWH.one (i := 10) (by kernel_rfl) rfl ?_
     refine AWL.call rfl rfl (B rfl) rfl ce_29 (E rfl rfl) (evsC (E rfl rfl) (evsC (E rfl rfl) (evsC (E rfl rfl) evs0))) (S1 := CB _ _ _ _) (S2 := [_]) rfl (two36 _ _ _ _ _ _) ?_
     rintro t102 S102 ⟨rfl, A102, c102, rfl⟩
     refine tb 2 rfl ?_
     refine AWH.one (i := 13) (by kernel_rfl) rfl ?_
     refine AWL.call rfl rfl (B rfl) rfl ce_30 (E rfl rfl) (evsC (E rfl rfl) (evsC (E rfl rfl) (evsC (E rfl rfl) evs0))) (S1 := CB _ _ _ _) (S2 := [_]) rfl (imm37 _ _ _ _ _ 1) ?_
     rintro t105 S105 ⟨rfl, A105, c105, rfl⟩
     refine tb 2 rfl ?_
     refine AWH.done (by kernel_rfl) ?_
     refine AW.rseq ?_
     refine AWL.y rfl rfl (B rfl) (Yv.move rfl (E rfl rfl)) ?_
     refine AWL.y rfl rfl (B rfl) (Yv.nilChk rfl (E rfl rfl)) ?_
     refine AWL.y rfl rfl (B rfl) (Yv.fieldBox rfl fo_49_0 (E rfl rfl)) ?_
     refine AWL.y rfl rfl (B rfl) (Yv.loadBox rfl ag_24 (i := 1) rfl (E rfl rfl) rfl) ?_
     refine AWL.y rfl rfl (B rfl) (Yv.assign rfl (E rfl rfl)) ?_
     refine AWL.y rfl rfl (B rfl) (Yv.assign rfl (E rfl rfl)) ?_
     refine AWL.nil ?_
     refine AW.drop (List.take_sublist 1 _) ?_
     refine AW.ret (retI (.tmp rfl (.tmp rfl .nil)) ?_)
     rw [if_pos hval]
     refine enc_end ?_
     rw [enc3 (by rw [h46t]; rfl)]
     skip
     try simp only [List.append_assoc]
     rfl
   · exfalso; replace h47f := of_decide_eq_false h47f; omega
  try replace h46f := of_decide_eq_false h46f
  refine AW.region ?_
  refine AWL.y rfl rfl (B rfl) (Yv.eql rfl (E rfl rfl) (E rfl rfl)) ?_
  refine AWL.y rfl rfl (B rfl) (Yv.assign rfl (E rfl rfl)) ?_
  refine AWL.nil ?_
  refine AW.cond rfl (fun h48t => ?_) (fun h48f => ?_)
  ·
   try replace h48t := of_decide_eq_true h48t
   refine AW.regionH (HeldBox b1 (insVals i)) rfl (tells_box (k := 2) rfl) ?_
   refine AWH.tk (i := 0) rfl rfl rfl (B rfl) (heldAll (freeMove rfl (E rfl rfl))) ?_
   refine AWH.tk (i := 1) rfl rfl rfl (B rfl) (heldAll (freeField rfl fo_23_1 (E rfl rfl))) ?_
   refine AWH.tk (i := 2) rfl rfl rfl (B rfl) (heldLoad rfl ag_3 (E rfl rfl) rfl) ?_
   refine AWH.tk (i := 4) rfl rfl rfl (B rfl) (heldAll (freeMove rfl (E rfl rfl))) ?_
   refine AWH.tk (i := 7) rfl rfl rfl (B rfl) (heldAll (freeMove rfl (E rfl rfl))) ?_
   refine AWH.tk (i := 8) rfl rfl rfl (B rfl) (heldAll (freeField rfl fo_23_1 (E rfl rfl))) ?_
   refine AWH.tk (i := 9) rfl rfl rfl (B rfl) (heldLoad rfl ag_3 (E rfl rfl) rfl) ?_
   refine AWH.tk (i := 11) rfl rfl rfl (B rfl) (heldAll (freeField rfl fo_23_5 (E rfl rfl))) ?_
   refine AWH.tk (i := 12) rfl rfl rfl (B rfl) (heldLoad rfl ag_2 (E rfl rfl) rfl) ?_
   refine AWH.two (i := 3) (j := 5) (by kernel_rfl) rfl rfl ?_ ?_
   ·
    refine AWL.call rfl rfl (B rfl) rfl ce_27 (E rfl rfl) (evsC (E rfl rfl) (evsC (E rfl rfl) (evsC (E rfl rfl) (evsC (E rfl rfl) evs0)))) (S1 := CB _ _ _ _) (S2 := [_]) rfl (rex34 _ _ _ _ _ _ _) ?_
    rintro t95 S95 ⟨rfl, A95, c95, rfl⟩
    refine tb 2 rfl ?_
    refine AWH.one (i := 5) (by kernel_rfl) rfl ?_
    refine AWL.buildSlice1 rfl rfl (B rfl) rfl el_43 rfl (evsC (E rfl rfl) evs0) (Nat.le_of_ble_eq_true rfl) rfl rfl ?_
    refine tb 2 rfl ?_
    refine AWH.one (i := 6) (by kernel_rfl) rfl ?_
    refine AWL.call rfl rfl (B rfl) rfl ce_28 (E rfl rfl) (evsC (E rfl rfl) (evsC (E rfl rfl) evs0)) (S1 := CB _ _ _ _) (S2 := [_]) rfl (put35 _ _ _ _ [_]) ?_
    rintro t98 S98 ⟨rfl, A98, c98, rfl⟩
    refine tb 2 rfl ?_
    refine AWH.one (i := 10) (by kernel_rfl) rfl ?_
    refine AWL.call rfl rfl (B rfl) rfl ce_29 (E rfl rfl) (evsC (E rfl rfl) (evsC (E rfl rfl) (evsC (E rfl rfl) evs0))) (S1 := CB _ _ _ _) (S2 := [_]) rfl (two36 _ _ _ _ _ _) ?_
    rintro t102 S102 ⟨rfl, A102, c102, rfl⟩
    refine tb 2 rfl ?_
    refine AWH.one (i := 13) (by kernel_rfl) rfl ?_
    refine AWL.call rfl rfl (B rfl) rfl ce_30 (E rfl rfl) (evsC (E rfl rfl) (evsC (E rfl rfl) (evsC (E rfl rfl) evs0))) (S1 := CB _ _ _ _) (S2 := [_]) rfl (imm37 _ _ _ _ _ 1) ?_
    rintro t105 S105 ⟨rfl, A105, c105, rfl⟩
    refine tb 2 rfl ?_
    refine AWH.done (by kernel_rfl) ?_
    refine AW.rseq ?_
    refine AWL.y rfl rfl (B rfl) (Yv.move rfl (E rfl rfl)) ?_
    refine AWL.y rfl rfl (B rfl) (Yv.nilChk rfl (E rfl rfl)) ?_
    refine AWL.y rfl rfl (B rfl) (Yv.fieldBox rfl fo_49_0 (E rfl rfl)) ?_
    refine AWL.y rfl rfl (B rfl) (Yv.loadBox rfl ag_24 (i := 1) rfl (E rfl rfl) rfl) ?_
    refine AWL.y rfl rfl (B rfl) (Yv.assign rfl (E rfl rfl)) ?_
    refine AWL.y rfl rfl (B rfl) (Yv.assign rfl (E rfl rfl)) ?_
    refine AWL.nil ?_
    refine AW.drop (List.take_sublist 1 _) ?_
    refine AW.ret (retI (.tmp rfl (.tmp rfl .nil)) ?_)
    rw [if_pos hval]
    refine enc_end ?_
    rw [enc3 (by rw [h48t]; rfl)]
    skip
    try simp only [List.append_assoc]
    rfl
   ·
    refine AWL.buildSlice1 rfl rfl (B rfl) rfl el_43 rfl (evsC (E rfl rfl) evs0) (Nat.le_of_ble_eq_true rfl) rfl rfl ?_
    refine tb 2 rfl ?_
    refine AWH.one (i := 3) (by kernel_rfl) rfl ?_
    refine AWL.call rfl rfl (B rfl) rfl ce_27 (E rfl rfl) (evsC (E rfl rfl) (evsC (E rfl rfl) (evsC (E rfl rfl) (evsC (E rfl rfl) evs0)))) (S1 := CB _ _ _ _) (S2 := [_]) rfl (rex34 _ _ _ _ _ _ _) ?_
    rintro t95 S95 ⟨rfl, A95, c95, rfl⟩
    refine tb 2 rfl ?_
    refine AWH.one (i := 6) (by kernel_rfl) rfl ?_
    refine AWL.call rfl rfl (B rfl) rfl ce_28 (E rfl rfl) (evsC (E rfl rfl) (evsC (E rfl rfl) evs0)) (S1 := CB _ _ _ _) (S2 := [_]) rfl (put35 _ _ _ _ [_]) ?_
    rintro t98 S98 ⟨rfl, A98, c98, rfl⟩
    refine tb 2 rfl ?_
    refine AWH.one (i := 10) (by kernel_rfl) rfl ?_
    refine AWL.call rfl rfl (B rfl) rfl ce_29 (E rfl rfl) (evsC (E rfl rfl) (evsC (E rfl rfl) (evsC (E rfl rfl) evs0))) (S1 := CB _ _ _ _) (S2 := [_]) rfl (two36 _ _ _ _ _ _) ?_
    rintro t102 S102 ⟨rfl, A102, c102, rfl⟩
    refine tb 2 rfl ?_
    refine AWH.one (i := 13) (by kernel_rfl) rfl ?_
    refine AWL.call rfl rfl (B rfl) rfl ce_30 (E rfl rfl) (evsC (E rfl rfl) (evsC (E rfl rfl) (evsC (E rfl rfl) evs0))) (S1 := CB _ _ _ _) (S2 := [_]) rfl (imm37 _ _ _ _ _ 1) ?_
    rintro t105 S105 ⟨rfl, A105, c105, rfl⟩
    refine tb 2 rfl ?_
    refine AWH.done (by kernel_rfl) ?_
    refine AW.rseq ?_
    refine AWL.y rfl rfl (B rfl) (Yv.move rfl (E rfl rfl)) ?_
    refine AWL.y rfl rfl (B rfl) (Yv.nilChk rfl (E rfl rfl)) ?_
    refine AWL.y rfl rfl (B rfl) (Yv.fieldBox rfl fo_49_0 (E rfl rfl)) ?_
    refine AWL.y rfl rfl (B rfl) (Yv.loadBox rfl ag_24 (i := 1) rfl (E rfl rfl) rfl) ?_
    refine AWL.y rfl rfl (B rfl) (Yv.assign rfl (E rfl rfl)) ?_
    refine AWL.y rfl rfl (B rfl) (Yv.assign rfl (E rfl rfl)) ?_
    refine AWL.nil ?_
    refine AW.drop (List.take_sublist 1 _) ?_
    refine AW.ret (retI (.tmp rfl (.tmp rfl .nil)) ?_)
    rw [if_pos hval]
    refine enc_end ?_
    rw [enc3 (by rw [h48t]; rfl)]
    skip
    try simp only [List.append_assoc]
    rfl
  try replace h48f := of_decide_eq_false h48f
  refine AW.seq ?_
  refine AW.rseq ?_
  refine AWL.y rfl rfl (B rfl) (Yv.eql rfl (E rfl rfl) (E rfl rfl)) ?_
  refine AWL.y rfl rfl (B rfl) (Yv.assign rfl (E rfl rfl)) ?_
  refine AWL.nil ?_
  refine AW.cond rfl (fun h49t => ?_) (fun h49f => ?_)
  ·
   try replace h49t := of_decide_eq_true h49t
   refine AW.skip ?_
   refine AW.cond rfl (fun h50t => ?_) (fun h50f => ?_)
   ·
    try replace h50t := of_decide_eq_true h50t
    refine AW.regionH (HeldBox b1 (insVals i)) rfl (tells_box (k := 2) rfl) ?_
    refine AWH.tk (i := 0) rfl rfl rfl (B rfl) (heldAll (freeMove rfl (E rfl rfl))) ?_
    refine AWH.tk (i := 1) rfl rfl rfl (B rfl) (heldAll (freeField rfl fo_23_1 (E rfl rfl))) ?_
    refine AWH.tk (i := 2) rfl rfl rfl (B rfl) (heldLoad rfl ag_3 (E rfl rfl) rfl) ?_
    refine AWH.tk (i := 4) rfl rfl rfl (B rfl) (heldAll (freeMove rfl (E rfl rfl))) ?_
    refine AWH.tk (i := 7) rfl rfl rfl (B rfl) (heldAll (freeMove rfl (E rfl rfl))) ?_
    refine AWH.tk (i := 8) rfl rfl rfl (B rfl) (heldAll (freeField rfl fo_23_1 (E rfl rfl))) ?_
    refine AWH.tk (i := 9) rfl rfl rfl (B rfl) (heldLoad rfl ag_3 (E rfl rfl) rfl) ?_
    refine AWH.two (i := 3) (j := 5) (by kernel_rfl) rfl rfl ?_ ?_
    ·
     refine AWL.call rfl rfl (B rfl) rfl ce_27 (E rfl rfl) (evsC (E rfl rfl) (evsC (E rfl rfl) (evsC (E rfl rfl) (evsC (E rfl rfl) evs0)))) (S1 := CB _ _ _ _) (S2 := [_]) rfl (rex34 _ _ _ _ _ _ _) ?_
     rintro t112 S112 ⟨rfl, A112, c112, rfl⟩
     refine tb 2 rfl ?_
     refine AWH.one (i := 5) (by kernel_rfl) rfl ?_
     refine AWL.buildSlice1 rfl rfl (B rfl) rfl el_43 rfl (evsC (E rfl rfl) evs0) (Nat.le_of_ble_eq_true rfl) rfl rfl ?_
     refine tb 2 rfl ?_
     refine AWH.one (i := 6) (by kernel_rfl) rfl ?_
     refine AWL.call rfl rfl (B rfl) rfl ce_28 (E rfl rfl) (evsC (E rfl rfl) (evsC (E rfl rfl) evs0)) (S1 := CB _ _ _ _) (S2 := [_]) rfl (put35 _ _ _ _ [_]) ?_
     rintro t115 S115 ⟨rfl, A115, c115, rfl⟩
     refine tb 2 rfl ?_
     refine AWH.one (i := 10) (by kernel_rfl) rfl ?_
     refine AWL.call rfl rfl (B rfl) rfl ce_29 (E rfl rfl) (evsC (E rfl rfl) (evsC (E rfl rfl) (evsC (E rfl rfl) evs0))) (S1 := CB _ _ _ _) (S2 := [_]) rfl (two36 _ _ _ _ _ _) ?_
     rintro t119 S119 ⟨rfl, A119, c119, rfl⟩
     refine tb 2 rfl ?_
     refine AWH.done (by kernel_rfl) ?_
     refine AW.rseq ?_
     refine AWL.y rfl rfl (B rfl) (Yv.move rfl (E rfl rfl)) ?_
     refine AWL.y rfl rfl (B rfl) (Yv.nilChk rfl (E rfl rfl)) ?_
     refine AWL.y rfl rfl (B rfl) (Yv.fieldBox rfl fo_49_0 (E rfl rfl)) ?_
     refine AWL.y rfl rfl (B rfl) (Yv.loadBox rfl ag_24 (i := 1) rfl (E rfl rfl) rfl) ?_
     refine AWL.y rfl rfl (B rfl) (Yv.assign rfl (E rfl rfl)) ?_
     refine AWL.y rfl rfl (B rfl) (Yv.assign rfl (E rfl rfl)) ?_
     refine AWL.nil ?_
     refine AW.drop (List.take_sublist 1 _) ?_
     refine AW.ret (retI (.tmp rfl (.tmp rfl .nil)) ?_)
     rw [if_pos hval]
     refine enc_end ?_
     rw [enc4 (by rw [h49t]; rfl)]
     skip
     try simp only [List.append_assoc]
     rfl
    ·
     refine AWL.buildSlice1 rfl rfl (B rfl) rfl el_43 rfl (evsC (E rfl rfl) evs0) (Nat.le_of_ble_eq_true rfl) rfl rfl ?_
     refine tb 2 rfl ?_
     refine AWH.one (i := 3) (by kernel_rfl) rfl ?_
     refine AWL.call rfl rfl (B rfl) rfl ce_27 (E rfl rfl) (evsC (E rfl rfl) (evsC (E rfl rfl) (evsC (E rfl rfl) (evsC (E rfl rfl) evs0)))) (S1 := CB _ _ _ _) (S2 := [_]) rfl (rex34 _ _ _ _ _ _ _) ?_
     rintro t112 S112 ⟨rfl, A112, c112, rfl⟩
     refine tb 2 rfl ?_
     refine AWH.one (i := 6) (by kernel_rfl) rfl ?_
     refine AWL.call rfl rfl (B rfl) rfl ce_28 (E rfl rfl) (evsC (E rfl rfl) (evsC (E rfl rfl) evs0)) (S1 := CB _ _ _ _) (S2 := [_]) rfl (put35 _ _ _ _ [_]) ?_
     rintro t115 S115 ⟨rfl, A115, c115, rfl⟩
     refine tb 2 rfl ?_
     refine AWH.one (i := 10) (by kernel_rfl) rfl ?_
     refine AWL.call rfl rfl (B rfl) rfl ce_29 (E rfl rfl) (evsC (E rfl rfl) (evsC (E rfl rfl) (evsC (E rfl rfl) evs0))) (S1 := CB _ _ _ _) (S2 := [_]) rfl (two36 _ _ _ _ _ _) ?_
     rintro t119 S119 ⟨rfl, A119, c119, rfl⟩
     refine tb 2 rfl ?_
     refine AWH.done (by kernel_rfl) ?_
     refine AW.rseq ?_
     refine AWL.y rfl rfl (B rfl) (Yv.move rfl (E rfl rfl)) ?_
     refine AWL.y rfl rfl (B rfl) (Yv.nilChk rfl (E rfl rfl)) ?_
     refine AWL.y rfl rfl (B rfl) (Yv.fieldBox rfl fo_49_0 (E rfl rfl)) ?_
     refine AWL.y rfl rfl (B rfl) (Yv.loadBox rfl ag_24 (i := 1) rfl (E rfl rfl) rfl) ?_
     refine AWL.y rfl rfl (B rfl) (Yv.assign rfl (E rfl rfl)) ?_
     refine AWL.y rfl rfl (B rfl) (Yv.assign rfl (E rfl rfl)) ?_
     refine AWL.nil ?_
     refine AW.drop (List.take_sublist 1 _) ?_
     refine AW.ret (retI (.tmp rfl (.tmp rfl .nil)) ?_)
     rw [if_pos hval]
     refine enc_end ?_
     rw [enc4 (by rw [h49t]; rfl)]
     skip
     try simp only [List.append_assoc]
     rfl
   · exfalso; replace h50f := of_decide_eq_false h50f; omega
  try replace h49f := of_decide_eq_false h49f
  refine AW.region ?_
  refine AWL.y rfl rfl (B rfl) (Yv.eql rfl (E rfl rfl) (E rfl rfl)) ?_
  refine AWL.y rfl rfl (B rfl) (Yv.assign rfl (E rfl rfl)) ?_
  refine AWL.nil ?_
  refine AW.cond rfl (fun h51t => ?_) (fun h51f => ?_)
  ·
   try replace h51t := of_decide_eq_true h51t
   refine AW.regionH (HeldBox b1 (insVals i)) rfl (tells_box (k := 2) rfl) ?_
   refine AWH.tk (i := 0) rfl rfl rfl (B rfl) (heldAll (freeMove rfl (E rfl rfl))) ?_
   refine AWH.tk (i := 1) rfl rfl rfl (B rfl) (heldAll (freeField rfl fo_23_1 (E rfl rfl))) ?_
   refine AWH.tk (i := 2) rfl rfl rfl (B rfl) (heldLoad rfl ag_3 (E rfl rfl) rfl) ?_
   refine AWH.tk (i := 4) rfl rfl rfl (B rfl) (heldAll (freeMove rfl (E rfl rfl))) ?_
   refine AWH.tk (i := 7) rfl rfl rfl (B rfl) (heldAll (freeMove rfl (E rfl rfl))) ?_
   refine AWH.tk (i := 8) rfl rfl rfl (B rfl) (heldAll (freeField rfl fo_23_1 (E rfl rfl))) ?_
   refine AWH.tk (i := 9) rfl rfl rfl (B rfl) (heldLoad rfl ag_3 (E rfl rfl) rfl) ?_
   refine AWH.two (i := 3) (j := 5) (by kernel_rfl) rfl rfl ?_ ?_
   ·
    refine AWL.call rfl rfl (B rfl) rfl ce_27 (E rfl rfl) (evsC (E rfl rfl) (evsC (E rfl rfl) (evsC (E rfl rfl) (evsC (E rfl rfl) evs0)))) (S1 := CB _ _ _ _) (S2 := [_]) rfl (rex34 _ _ _ _ _ _ _) ?_
    rintro t112 S112 ⟨rfl, A112, c112, rfl⟩
    refine tb 2 rfl ?_
    refine AWH.one (i := 5) (by kernel_rfl) rfl ?_
    refine AWL.buildSlice1 rfl rfl (B rfl) rfl el_43 rfl (evsC (E rfl rfl) evs0) (Nat.le_of_ble_eq_true rfl) rfl rfl ?_
    refine tb 2 rfl ?_
    refine AWH.one (i := 6) (by kernel_rfl) rfl ?_
    refine AWL.call rfl rfl (B rfl) rfl ce_28 (E rfl rfl) (evsC (E rfl rfl) (evsC (E rfl rfl) evs0)) (S1 := CB _ _ _ _) (S2 := [_]) rfl (put35 _ _ _ _ [_]) ?_
    rintro t115 S115 ⟨rfl, A115, c115, rfl⟩
    refine tb 2 rfl ?_
    refine AWH.one (i := 10) (by kernel_rfl) rfl ?_
    refine AWL.call rfl rfl (B rfl) rfl ce_29 (E rfl rfl) (evsC (E rfl rfl) (evsC (E rfl rfl) (evsC (E rfl rfl) evs0))) (S1 := CB _ _ _ _) (S2 := [_]) rfl (two36 _ _ _ _ _ _) ?_
    rintro t119 S119 ⟨rfl, A119, c119, rfl⟩
    refine tb 2 rfl ?_
    refine AWH.done (by kernel_rfl) ?_
    refine AW.rseq ?_
    refine AWL.y rfl rfl (B rfl) (Yv.move rfl (E rfl rfl)) ?_
    refine AWL.y rfl rfl (B rfl) (Yv.nilChk rfl (E rfl rfl)) ?_
    refine AWL.y rfl rfl (B rfl) (Yv.fieldBox rfl fo_49_0 (E rfl rfl)) ?_
    refine AWL.y rfl rfl (B rfl) (Yv.loadBox rfl ag_24 (i := 1) rfl (E rfl rfl) rfl) ?_
    refine AWL.y rfl rfl (B rfl) (Yv.assign rfl (E rfl rfl)) ?_
    refine AWL.y rfl rfl (B rfl) (Yv.assign rfl (E rfl rfl)) ?_
    refine AWL.nil ?_
    refine AW.drop (List.take_sublist 1 _) ?_
    refine AW.ret (retI (.tmp rfl (.tmp rfl .nil)) ?_)
    rw [if_pos hval]
    refine enc_end ?_
    rw [enc4 (by rw [h51t]; rfl)]
    skip
    try simp only [List.append_assoc]
    rfl
   ·
    refine AWL.buildSlice1 rfl rfl (B rfl) rfl el_43 rfl (evsC (E rfl rfl) evs0) (Nat.le_of_ble_eq_true rfl) rfl rfl ?_
    refine tb 2 rfl ?_
    refine AWH.one (i := 3) (by kernel_rfl) rfl ?_
    refine AWL.call rfl rfl (B rfl) rfl ce_27 (E rfl rfl) (evsC (E rfl rfl) (evsC (E rfl rfl) (evsC (E rfl rfl) (evsC (E rfl rfl) evs0)))) (S1 := CB _ _ _ _) (S2 := [_]) rfl (rex34 _ _ _ _ _ _ _) ?_
    rintro t112 S112 ⟨rfl, A112, c112, rfl⟩
    refine tb 2 rfl ?_
    refine AWH.one (i := 6) (by kernel_rfl) rfl ?_
    refine AWL.call rfl rfl (B rfl) rfl ce_28 (E rfl rfl) (evsC (E rfl rfl) (evsC (E rfl rfl) evs0)) (S1 := CB _ _ _ _) (S2 := [_]) rfl (put35 _ _ _ _ [_]) ?_
    rintro t115 S115 ⟨rfl, A115, c115, rfl⟩
    refine tb 2 rfl ?_
    refine AWH.one (i := 10) (by kernel_rfl) rfl ?_
    refine AWL.call rfl rfl (B rfl) rfl ce_29 (E rfl rfl) (evsC (E rfl rfl) (evsC (E rfl rfl) (evsC (E rfl rfl) evs0))) (S1 := CB _ _ _ _) (S2 := [_]) rfl (two36 _ _ _ _ _ _) ?_
    rintro t119 S119 ⟨rfl, A119, c119, rfl⟩
    refine tb 2 rfl ?_
    refine AWH.done (by kernel_rfl) ?_
    refine AW.rseq ?_
    refine AWL.y rfl rfl (B rfl) (Yv.move rfl (E rfl rfl)) ?_
    refine AWL.y rfl rfl (B rfl) (Yv.nilChk rfl (E rfl rfl)) ?_
    refine AWL.y rfl rfl (B rfl) (Yv.fieldBox rfl fo_49_0 (E rfl rfl)) ?_
    refine AWL.y rfl rfl (B rfl) (Yv.loadBox rfl ag_24 (i := 1) rfl (E rfl rfl) rfl) ?_
    refine AWL.y rfl rfl (B rfl) (Yv.assign rfl (E rfl rfl)) ?_
    refine AWL.y rfl rfl (B rfl) (Yv.assign rfl (E rfl rfl)) ?_
    refine AWL.nil ?_
    refine AW.drop (List.take_sublist 1 _) ?_
    refine AW.ret (retI (.tmp rfl (.tmp rfl .nil)) ?_)
    rw [if_pos hval]
    refine enc_end ?_
    rw [enc4 (by rw [h51t]; rfl)]
    skip
    try simp only [List.append_assoc]
    rfl
  try replace h51f := of_decide_eq_false h51f
  refine AW.rseq ?_
  refine AWL.y rfl rfl (B rfl) (Yv.eql rfl (E rfl rfl) (E rfl rfl)) ?_
  refine AWL.y rfl rfl (B rfl) (Yv.assign rfl (E rfl rfl)) ?_
  refine AWL.nil ?_
  refine AW.cond rfl (fun h52t => ?_) (fun h52f => ?_)
  ·
   try replace h52t := of_decide_eq_true h52t
   refine AW.rseq ?_
   refine AWL.y rfl rfl (B rfl) (Yv.fieldBox rfl fo_23_5 (E rfl rfl)) ?_
   refine AWL.y rfl rfl (B rfl) (Yv.loadBox rfl ag_2 (i := 2) rfl (E rfl rfl) rfl) ?_
   refine AWL.callP rfl rfl (B rfl) rfl ce_31 (E rfl rfl) (evsC (E rfl rfl) evs0) (small38 i.imm) (fun t S h => h) ?_
   refine AWL.nil ?_
   refine AW.cond rfl (fun h53t => ?_) (fun h53f => ?_)
   ·
    try replace h53t := of_decide_eq_true h53t
    refine AW.regionH (HeldBox b1 (insVals i)) rfl (tells_box (k := 2) rfl) ?_
    refine AWH.tk (i := 0) rfl rfl rfl (B rfl) (heldAll (freeMove rfl (E rfl rfl))) ?_
    refine AWH.tk (i := 1) rfl rfl rfl (B rfl) (heldAll (freeField rfl fo_23_1 (E rfl rfl))) ?_
    refine AWH.tk (i := 2) rfl rfl rfl (B rfl) (heldLoad rfl ag_3 (E rfl rfl) rfl) ?_
    refine AWH.tk (i := 6) rfl rfl rfl (B rfl) (heldAll (freeField rfl fo_23_1 (E rfl rfl))) ?_
    refine AWH.tk (i := 7) rfl rfl rfl (B rfl) (heldLoad rfl ag_3 (E rfl rfl) rfl) ?_
    refine AWH.tk (i := 9) rfl rfl rfl (B rfl) (heldAll (freeField rfl fo_23_5 (E rfl rfl))) ?_
    refine AWH.tk (i := 10) rfl rfl rfl (B rfl) (heldLoad rfl ag_2 (E rfl rfl) rfl) ?_
    refine AWH.two (i := 3) (j := 4) (by kernel_rfl) rfl rfl ?_ ?_
    ·
     refine AWL.call rfl rfl (B rfl) rfl ce_27 (E rfl rfl) (evsC (E rfl rfl) (evsC (E rfl rfl) (evsC (E rfl rfl) (evsC (E rfl rfl) evs0)))) (S1 := CB _ _ _ _) (S2 := [_]) rfl (rex34 _ _ _ _ _ _ _) ?_
     rintro t128 S128 ⟨rfl, A128, c128, rfl⟩
     refine tb 2 rfl ?_
     refine AWH.one (i := 4) (by kernel_rfl) rfl ?_
     refine AWL.buildSlice1 rfl rfl (B rfl) rfl el_43 rfl (evsC (E rfl rfl) evs0) (Nat.le_of_ble_eq_true rfl) rfl rfl ?_
     refine tb 2 rfl ?_
     refine AWH.one (i := 5) (by kernel_rfl) rfl ?_
     refine AWL.call rfl rfl (B rfl) rfl ce_28 (E rfl rfl) (evsC (E rfl rfl) (evsC (E rfl rfl) evs0)) (S1 := CB _ _ _ _) (S2 := [_]) rfl (put35 _ _ _ _ [_]) ?_
     rintro t130 S130 ⟨rfl, A130, c130, rfl⟩
     refine tb 2 rfl ?_
     refine AWH.one (i := 8) (by kernel_rfl) rfl ?_
     refine AWL.call rfl rfl (B rfl) rfl ce_29 (E rfl rfl) (evsC (E rfl rfl) (evsC (E rfl rfl) (evsC (E rfl rfl) evs0))) (S1 := CB _ _ _ _) (S2 := [_]) rfl (two36 _ _ _ _ _ _) ?_
     rintro t133 S133 ⟨rfl, A133, c133, rfl⟩
     refine tb 2 rfl ?_
     refine AWH.one (i := 11) (by kernel_rfl) rfl ?_
     refine AWL.call rfl rfl (B rfl) rfl ce_30 (E rfl rfl) (evsC (E rfl rfl) (evsC (E rfl rfl) (evsC (E rfl rfl) evs0))) (S1 := CB _ _ _ _) (S2 := [_]) rfl (imm37 _ _ _ _ _ 4) ?_
     rintro t136 S136 ⟨rfl, A136, c136, rfl⟩
     refine tb 2 rfl ?_
     refine AWH.done (by kernel_rfl) ?_
     refine AW.rseq ?_
     refine AWL.y rfl rfl (B rfl) (Yv.move rfl (E rfl rfl)) ?_
     refine AWL.y rfl rfl (B rfl) (Yv.nilChk rfl (E rfl rfl)) ?_
     refine AWL.y rfl rfl (B rfl) (Yv.fieldBox rfl fo_49_0 (E rfl rfl)) ?_
     refine AWL.y rfl rfl (B rfl) (Yv.loadBox rfl ag_24 (i := 1) rfl (E rfl rfl) rfl) ?_
     refine AWL.y rfl rfl (B rfl) (Yv.assign rfl (E rfl rfl)) ?_
     refine AWL.y rfl rfl (B rfl) (Yv.assign rfl (E rfl rfl)) ?_
     refine AWL.nil ?_
     refine AW.drop (List.take_sublist 1 _) ?_
     refine AW.ret (retI (.tmp rfl (.tmp rfl .nil)) ?_)
     rw [if_pos hval]
     refine enc_end ?_
     rw [enc5 (by rw [h52t]; rfl), if_pos (by assumption)]
     skip
     try simp only [List.append_assoc]
     rfl
    ·
     refine AWL.buildSlice1 rfl rfl (B rfl) rfl el_43 rfl (evsC (E rfl rfl) evs0) (Nat.le_of_ble_eq_true rfl) rfl rfl ?_
     refine tb 2 rfl ?_
     refine AWH.one (i := 3) (by kernel_rfl) rfl ?_
     refine AWL.call rfl rfl (B rfl) rfl ce_27 (E rfl rfl) (evsC (E rfl rfl) (evsC (E rfl rfl) (evsC (E rfl rfl) (evsC (E rfl rfl) evs0)))) (S1 := CB _ _ _ _) (S2 := [_]) rfl (rex34 _ _ _ _ _ _ _) ?_
     rintro t128 S128 ⟨rfl, A128, c128, rfl⟩
     refine tb 2 rfl ?_
     refine AWH.one (i := 5) (by kernel_rfl) rfl ?_
     refine AWL.call rfl rfl (B rfl) rfl ce_28 (E rfl rfl) (evsC (E rfl rfl) (evsC (E rfl rfl) evs0)) (S1 := CB _ _ _ _) (S2 := [_]) rfl (put35 _ _ _ _ [_]) ?_
     rintro t130 S130 ⟨rfl, A130, c130, rfl⟩
     refine tb 2 rfl ?_
     refine AWH.one (i := 8) (by kernel_rfl) rfl ?_
     refine AWL.call rfl rfl (B rfl) rfl ce_29 (E rfl rfl) (evsC (E rfl rfl) (evsC (E rfl rfl) (evsC (E rfl rfl) evs0))) (S1 := CB _ _ _ _) (S2 := [_]) rfl (two36 _ _ _ _ _ _) ?_
     rintro t133 S133 ⟨rfl, A133, c133, rfl⟩
     refine tb 2 rfl ?_
     refine AWH.one (i := 11) (by kernel_rfl) rfl ?_
     refine AWL.call rfl rfl (B rfl) rfl ce_30 (E rfl rfl) (evsC (E rfl rfl) (evsC (E rfl rfl) (evsC (E rfl rfl) evs0))) (S1 := CB _ _ _ _) (S2 := [_]) rfl (imm37 _ _ _ _ _ 4) ?_
     rintro t136 S136 ⟨rfl, A136, c136, rfl⟩
     refine tb 2 rfl ?_
     refine AWH.done (by kernel_rfl) ?_
     refine AW.rseq ?_
     refine AWL.y rfl rfl (B rfl) (Yv.move rfl (E rfl rfl)) ?_
     refine AWL.y rfl rfl (B rfl) (Yv.nilChk rfl (E rfl rfl)) ?_
     refine AWL.y rfl rfl (B rfl) (Yv.fieldBox rfl fo_49_0 (E rfl rfl)) ?_
     refine AWL.y rfl rfl (B rfl) (Yv.loadBox rfl ag_24 (i := 1) rfl (E rfl rfl) rfl) ?_
     refine AWL.y rfl rfl (B rfl) (Yv.assign rfl (E rfl rfl)) ?_
     refine AWL.y rfl rfl (B rfl) (Yv.assign rfl (E rfl rfl)) ?_
     refine AWL.nil ?_
     refine AW.drop (List.take_sublist 1 _) ?_
     refine AW.ret (retI (.tmp rfl (.tmp rfl .nil)) ?_)
     rw [if_pos hval]
     refine enc_end ?_
     rw [enc5 (by rw [h52t]; rfl), if_pos (by assumption)]
     skip
     try simp only [List.append_assoc]
     rfl
   try replace h53f := of_decide_eq_false h53f
   refine AW.regionH (HeldBox b1 (insVals i)) rfl (tells_box (k := 2) rfl) ?_
   refine AWH.tk (i := 0) rfl rfl rfl (B rfl) (heldAll (freeMove rfl (E rfl rfl))) ?_
   refine AWH.tk (i := 1) rfl rfl rfl (B rfl) (heldAll (freeField rfl fo_23_1 (E rfl rfl))) ?_
   refine AWH.tk (i := 2) rfl rfl rfl (B rfl) (heldLoad rfl ag_3 (E rfl rfl) rfl) ?_
   refine AWH.tk (i := 4) rfl rfl rfl (B rfl) (heldAll (freeField rfl fo_23_1 (E rfl rfl))) ?_
   refine AWH.tk (i := 5) rfl rfl rfl (B rfl) (heldLoad rfl ag_3 (E rfl rfl) rfl) ?_
   refine AWH.tk (i := 10) rfl rfl rfl (B rfl) (heldAll (freeField rfl fo_23_5 (E rfl rfl))) ?_
   refine AWH.tk (i := 11) rfl rfl rfl (B rfl) (heldLoad rfl ag_2 (E rfl rfl) rfl) ?_
   refine AWH.two (i := 3) (j := 6) (by kernel_rfl) rfl rfl ?_ ?_
   ·
    refine AWL.call rfl rfl (B rfl) rfl ce_27 (E rfl rfl) (evsC (E rfl rfl) (evsC (E rfl rfl) (evsC (E rfl rfl) (evsC (E rfl rfl) evs0)))) (S1 := CB _ _ _ _) (S2 := [_]) rfl (rex34 _ _ _ _ _ _ _) ?_
    rintro t140 S140 ⟨rfl, A140, c140, rfl⟩
    refine tb 2 rfl ?_
    refine AWH.one (i := 6) (by kernel_rfl) rfl ?_
    refine AWL.y rfl rfl (B rfl) (Yv.andN_i64 3 8 (by decide) (by decide) (by decide) rfl (E rfl rfl) (E rfl rfl) (fun hg => ⟨by omega, by omega⟩)) ?_
    refine tb 2 rfl ?_
    refine AWH.one (i := 7) (by kernel_rfl) rfl ?_
    refine AWL.y rfl rfl (B rfl) (Yv.bits rfl rfl (E rfl rfl) (E rfl rfl)) ?_
    refine tb 2 rfl ?_
    refine AWH.one (i := 8) (by kernel_rfl) rfl ?_
    refine AWL.buildSlice1 rfl rfl (B rfl) rfl el_43 rfl (evsC (E rfl rfl) evs0) (Nat.le_of_ble_eq_true rfl) rfl rfl ?_
    refine tb 2 rfl ?_
    refine AWH.one (i := 9) (by kernel_rfl) rfl ?_
    refine AWL.call rfl rfl (B rfl) rfl ce_28 (E rfl rfl) (evsC (E rfl rfl) (evsC (E rfl rfl) evs0)) (S1 := CB _ _ _ _) (S2 := [_]) rfl (put35 _ _ _ _ [_]) ?_
    rintro t146 S146 ⟨rfl, A146, c146, rfl⟩
    refine tb 2 rfl ?_
    refine AWH.one (i := 12) (by kernel_rfl) rfl ?_
    refine AWL.call rfl rfl (B rfl) rfl ce_30 (E rfl rfl) (evsC (E rfl rfl) (evsC (E rfl rfl) (evsC (E rfl rfl) evs0))) (S1 := CB _ _ _ _) (S2 := [_]) rfl (imm37 _ _ _ _ _ 8) ?_
    rintro t149 S149 ⟨rfl, A149, c149, rfl⟩
    refine tb 2 rfl ?_
    refine AWH.done (by kernel_rfl) ?_
    refine AW.rseq ?_
    refine AWL.y rfl rfl (B rfl) (Yv.move rfl (E rfl rfl)) ?_
    refine AWL.y rfl rfl (B rfl) (Yv.nilChk rfl (E rfl rfl)) ?_
    refine AWL.y rfl rfl (B rfl) (Yv.fieldBox rfl fo_49_0 (E rfl rfl)) ?_
    refine AWL.y rfl rfl (B rfl) (Yv.loadBox rfl ag_24 (i := 1) rfl (E rfl rfl) rfl) ?_
    refine AWL.y rfl rfl (B rfl) (Yv.assign rfl (E rfl rfl)) ?_
    refine AWL.y rfl rfl (B rfl) (Yv.assign rfl (E rfl rfl)) ?_
    refine AWL.nil ?_
    refine AW.drop (List.take_sublist 1 _) ?_
    refine AW.ret (retI (.tmp rfl (.tmp rfl .nil)) ?_)
    rw [if_pos hval]
    refine enc_end ?_
    rw [enc5 (by rw [h52t]; rfl), if_neg (ne_true_of_eq_false (by assumption))]
    rw [← r3]
    try simp only [List.append_assoc]
    rfl
   ·
    refine AWL.y rfl rfl (B rfl) (Yv.andN_i64 3 8 (by decide) (by decide) (by decide) rfl (E rfl rfl) (E rfl rfl) (fun hg => ⟨by omega, by omega⟩)) ?_
    refine tb 2 rfl ?_
    refine AWH.two (i := 3) (j := 7) (by kernel_rfl) rfl rfl ?_ ?_
    ·
     refine AWL.call rfl rfl (B rfl) rfl ce_27 (E rfl rfl) (evsC (E rfl rfl) (evsC (E rfl rfl) (evsC (E rfl rfl) (evsC (E rfl rfl) evs0)))) (S1 := CB _ _ _ _) (S2 := [_]) rfl (rex34 _ _ _ _ _ _ _) ?_
     rintro t140 S140 ⟨rfl, A140, c140, rfl⟩
     refine tb 2 rfl ?_
     refine AWH.one (i := 7) (by kernel_rfl) rfl ?_
     refine AWL.y rfl rfl (B rfl) (Yv.bits rfl rfl (E rfl rfl) (E rfl rfl)) ?_
     refine tb 2 rfl ?_
     refine AWH.one (i := 8) (by kernel_rfl) rfl ?_
     refine AWL.buildSlice1 rfl rfl (B rfl) rfl el_43 rfl (evsC (E rfl rfl) evs0) (Nat.le_of_ble_eq_true rfl) rfl rfl ?_
     refine tb 2 rfl ?_
     refine AWH.one (i := 9) (by kernel_rfl) rfl ?_
     refine AWL.call rfl rfl (B rfl) rfl ce_28 (E rfl rfl) (evsC (E rfl rfl) (evsC (E rfl rfl) evs0)) (S1 := CB _ _ _ _) (S2 := [_]) rfl (put35 _ _ _ _ [_]) ?_
     rintro t146 S146 ⟨rfl, A146, c146, rfl⟩
     refine tb 2 rfl ?_
     refine AWH.one (i := 12) (by kernel_rfl) rfl ?_
     refine AWL.call rfl rfl (B rfl) rfl ce_30 (E rfl rfl) (evsC (E rfl rfl) (evsC (E rfl rfl) (evsC (E rfl rfl) evs0))) (S1 := CB _ _ _ _) (S2 := [_]) rfl (imm37 _ _ _ _ _ 8) ?_
     rintro t149 S149 ⟨rfl, A149, c149, rfl⟩
     refine tb 2 rfl ?_
     refine AWH.done (by kernel_rfl) ?_
     refine AW.rseq ?_
     refine AWL.y rfl rfl (B rfl) (Yv.move rfl (E rfl rfl)) ?_
     refine AWL.y rfl rfl (B rfl) (Yv.nilChk rfl (E rfl rfl)) ?_
     refine AWL.y rfl rfl (B rfl) (Yv.fieldBox rfl fo_49_0 (E rfl rfl)) ?_
     refine AWL.y rfl rfl (B rfl) (Yv.loadBox rfl ag_24 (i := 1) rfl (E rfl rfl) rfl) ?_
     refine AWL.y rfl rfl (B rfl) (Yv.assign rfl (E rfl rfl)) ?_
     refine AWL.y rfl rfl (B rfl) (Yv.assign rfl (E rfl rfl)) ?_
     refine AWL.nil ?_
     refine AW.drop (List.take_sublist 1 _) ?_
     refine AW.ret (retI (.tmp rfl (.tmp rfl .nil)) ?_)
     rw [if_pos hval]
     refine enc_end ?_
     rw [enc5 (by rw [h52t]; rfl), if_neg (ne_true_of_eq_false (by assumption))]
     rw [← r3]
     try simp only [List.append_assoc]
     rfl
    ·
     refine AWL.y rfl rfl (B rfl) (Yv.bits rfl rfl (E rfl rfl) (E rfl rfl)) ?_
     refine tb 2 rfl ?_
     refine AWH.two (i := 3) (j := 8) (by kernel_rfl) rfl rfl ?_ ?_
     ·
      refine AWL.call rfl rfl (B rfl) rfl ce_27 (E rfl rfl) (evsC (E rfl rfl) (evsC (E rfl rfl) (evsC (E rfl rfl) (evsC (E rfl rfl) evs0)))) (S1 := CB _ _ _ _) (S2 := [_]) rfl (rex34 _ _ _ _ _ _ _) ?_
      rintro t140 S140 ⟨rfl, A140, c140, rfl⟩
      refine tb 2 rfl ?_
      refine AWH.one (i := 8) (by kernel_rfl) rfl ?_
      refine AWL.buildSlice1 rfl rfl (B rfl) rfl el_43 rfl (evsC (E rfl rfl) evs0) (Nat.le_of_ble_eq_true rfl) rfl rfl ?_
      refine tb 2 rfl ?_
      refine AWH.one (i := 9) (by kernel_rfl) rfl ?_
      refine AWL.call rfl rfl (B rfl) rfl ce_28 (E rfl rfl) (evsC (E rfl rfl) (evsC (E rfl rfl) evs0)) (S1 := CB _ _ _ _) (S2 := [_]) rfl (put35 _ _ _ _ [_]) ?_
      rintro t146 S146 ⟨rfl, A146, c146, rfl⟩
      refine tb 2 rfl ?_
      refine AWH.one (i := 12) (by kernel_rfl) rfl ?_
      refine AWL.call rfl rfl (B rfl) rfl ce_30 (E rfl rfl) (evsC (E rfl rfl) (evsC (E rfl rfl) (evsC (E rfl rfl) evs0))) (S1 := CB _ _ _ _) (S2 := [_]) rfl (imm37 _ _ _ _ _ 8) ?_
      rintro t149 S149 ⟨rfl, A149, c149, rfl⟩
      refine tb 2 rfl ?_
      refine AWH.done (by kernel_rfl) ?_
      refine AW.rseq ?_
      refine AWL.y rfl rfl (B rfl) (Yv.move rfl (E rfl rfl)) ?_
      refine AWL.y rfl rfl (B rfl) (Yv.nilChk rfl (E rfl rfl)) ?_
      refine AWL.y rfl rfl (B rfl) (Yv.fieldBox rfl fo_49_0 (E rfl rfl)) ?_
      refine AWL.y rfl rfl (B rfl) (Yv.loadBox rfl ag_24 (i := 1) rfl (E rfl rfl) rfl) ?_
      refine AWL.y rfl rfl (B rfl) (Yv.assign rfl (E rfl rfl)) ?_
      refine AWL.y rfl rfl (B rfl) (Yv.assign rfl (E rfl rfl)) ?_
      refine AWL.nil ?_
      refine AW.drop (List.take_sublist 1 _) ?_
      refine AW.ret (retI (.tmp rfl (.tmp rfl .nil)) ?_)
      rw [if_pos hval]
      refine enc_end ?_
      rw [enc5 (by rw [h52t]; rfl), if_neg (ne_true_of_eq_false (by assumption))]
      rw [← r3]
      try simp only [List.append_assoc]
      rfl
     ·
      refine AWL.buildSlice1 rfl rfl (B rfl) rfl el_43 rfl (evsC (E rfl rfl) evs0) (Nat.le_of_ble_eq_true rfl) rfl rfl ?_
      refine tb 2 rfl ?_
      refine AWH.one (i := 3) (by kernel_rfl) rfl ?_
      refine AWL.call rfl rfl (B rfl) rfl ce_27 (E rfl rfl) (evsC (E rfl rfl) (evsC (E rfl rfl) (evsC (E rfl rfl) (evsC (E rfl rfl) evs0)))) (S1 := CB _ _ _ _) (S2 := [_]) rfl (rex34 _ _ _ _ _ _ _) ?_
      rintro t140 S140 ⟨rfl, A140, c140, rfl⟩
      refine tb 2 rfl ?_
      refine AWH.one (i := 9) (by kernel_rfl) rfl ?_
      refine AWL.call rfl rfl (B rfl) rfl ce_28 (E rfl rfl) (evsC (E rfl rfl) (evsC (E rfl rfl) evs0)) (S1 := CB _ _ _ _) (S2 := [_]) rfl (put35 _ _ _ _ [_]) ?_
      rintro t146 S146 ⟨rfl, A146, c146, rfl⟩
      refine tb 2 rfl ?_
      refine AWH.one (i := 12) (by kernel_rfl) rfl ?_
      refine AWL.call rfl rfl (B rfl) rfl ce_30 (E rfl rfl) (evsC (E rfl rfl) (evsC (E rfl rfl) (evsC (E rfl rfl) evs0))) (S1 := CB _ _ _ _) (S2 := [_]) rfl (imm37 _ _ _ _ _ 8) ?_
      rintro t149 S149 ⟨rfl, A149, c149, rfl⟩
      refine tb 2 rfl ?_
      refine AWH.done (by kernel_rfl) ?_
      refine AW.rseq ?_
      refine AWL.y rfl rfl (B rfl) (Yv.move rfl (E rfl rfl)) ?_
      refine AWL.y rfl rfl (B rfl) (Yv.nilChk rfl (E rfl rfl)) ?_
      refine AWL.y rfl rfl (B rfl) (Yv.fieldBox rfl fo_49_0 (E rfl rfl)) ?_
      refine AWL.y rfl rfl (B rfl) (Yv.loadBox rfl ag_24 (i := 1) rfl (E rfl rfl) rfl) ?_
      refine AWL.y rfl rfl (B rfl) (Yv.assign rfl (E rfl rfl)) ?_
      refine AWL.y rfl rfl (B rfl) (Yv.assign rfl (E rfl rfl)) ?_
      refine AWL.nil ?_
      refine AW.drop (List.take_sublist 1 _) ?_
      refine AW.ret (retI (.tmp rfl (.tmp rfl .nil)) ?_)
      rw [if_pos hval]
      refine enc_end ?_
      rw [enc5 (by rw [h52t]; rfl), if_neg (ne_true_of_eq_false (by assumption))]
      rw [← r3]
      try simp only [List.append_assoc]
      rfl
  try replace h52f := of_decide_eq_false h52f
  refine AW.seq ?_
  refine AW.rseq ?_
  refine AWL.y rfl rfl (B rfl) (Yv.eql rfl (E rfl rfl) (E rfl rfl)) ?_
  refine AWL.y rfl rfl (B rfl) (Yv.assign rfl (E rfl rfl)) ?_
  refine AWL.nil ?_
  refine AW.cond rfl (fun h54t => ?_) (fun h54f => ?_)
  ·
   try replace h54t := of_decide_eq_true h54t
   refine AW.skip ?_
   refine AW.cond rfl (fun h55t => ?_) (fun h55f => ?_)
   ·
    try replace h55t := of_decide_eq_true h55t
    refine AW.region ?_
    refine AWL.y rfl rfl (B rfl) (Yv.move rfl (E rfl rfl)) ?_
    refine AWL.y rfl rfl (B rfl) (Yv.loadBoxA rfl ag_23 (i := 2) rfl (E rfl rfl) rfl rfl) ?_
    refine AWL.call rfl rfl (B rfl) rfl ce_32 (E rfl rfl) (evsC (E rfl rfl) (evsC (E rfl rfl) evs0)) (S1 := CB _ _ _ _) (S2 := [_]) rfl (memory39 b11 _ _ _ i hd hs hc (by simp)) ?_
    rintro t156 S156 ⟨A156, c156, e156, rfl⟩
    refine AWL.nil ?_
    refine AW.rseq ?_
    refine AWL.y rfl rfl (B rfl) (Yv.move rfl (E rfl rfl)) ?_
    refine AWL.y rfl rfl (B rfl) (Yv.nilChk rfl (E rfl rfl)) ?_
    refine AWL.y rfl rfl (B rfl) (Yv.fieldBox rfl fo_49_0 (E rfl rfl)) ?_
    refine AWL.y rfl rfl (B rfl) (Yv.loadBox rfl ag_24 (i := 1) rfl (E rfl rfl) rfl) ?_
    refine AWL.y rfl rfl (B rfl) (Yv.assign rfl (E rfl rfl)) ?_
    refine AWL.y rfl rfl (B rfl) (Yv.assign rfl (E rfl rfl)) ?_
    refine AWL.nil ?_
    refine AW.drop (List.take_sublist 1 _) ?_
    refine AW.ret (retI (.tmp rfl (.tmp rfl .nil)) ?_)
    rw [if_pos hval]
    refine enc_end ?_
    rw [enc6 (by rw [h54t]; rfl)]
    skip
    try simp only [List.append_assoc]
    rfl
   · exfalso; replace h55f := of_decide_eq_false h55f; omega
  try replace h54f := of_decide_eq_false h54f
  refine AW.rseq ?_
  refine AWL.y rfl rfl (B rfl) (Yv.eql rfl (E rfl rfl) (E rfl rfl)) ?_
  refine AWL.y rfl rfl (B rfl) (Yv.assign rfl (E rfl rfl)) ?_
  refine AWL.nil ?_
  refine AW.cond rfl (fun h56t => ?_) (fun h56f => ?_)
  ·
   try replace h56t := of_decide_eq_true h56t
   refine AW.skip ?_
   refine AW.cond rfl (fun h57t => ?_) (fun h57f => ?_)
   ·
    try replace h57t := of_decide_eq_true h57t
    refine AW.region ?_
    refine AWL.y rfl rfl (B rfl) (Yv.move rfl (E rfl rfl)) ?_
    refine AWL.y rfl rfl (B rfl) (Yv.loadBoxA rfl ag_23 (i := 2) rfl (E rfl rfl) rfl rfl) ?_
    refine AWL.call rfl rfl (B rfl) rfl ce_32 (E rfl rfl) (evsC (E rfl rfl) (evsC (E rfl rfl) evs0)) (S1 := CB _ _ _ _) (S2 := [_]) rfl (memory39 b11 _ _ _ i hd hs hc (by simp)) ?_
    rintro t156 S156 ⟨A156, c156, e156, rfl⟩
    refine AWL.nil ?_
    refine AW.rseq ?_
    refine AWL.y rfl rfl (B rfl) (Yv.move rfl (E rfl rfl)) ?_
    refine AWL.y rfl rfl (B rfl) (Yv.nilChk rfl (E rfl rfl)) ?_
    refine AWL.y rfl rfl (B rfl) (Yv.fieldBox rfl fo_49_0 (E rfl rfl)) ?_
    refine AWL.y rfl rfl (B rfl) (Yv.loadBox rfl ag_24 (i := 1) rfl (E rfl rfl) rfl) ?_
    refine AWL.y rfl rfl (B rfl) (Yv.assign rfl (E rfl rfl)) ?_
    refine AWL.y rfl rfl (B rfl) (Yv.assign rfl (E rfl rfl)) ?_
    refine AWL.nil ?_
    refine AW.drop (List.take_sublist 1 _) ?_
    refine AW.ret (retI (.tmp rfl (.tmp rfl .nil)) ?_)
    rw [if_pos hval]
    refine enc_end ?_
    rw [enc6 (by rw [h56t]; rfl)]
    skip
    try simp only [List.append_assoc]
    rfl
   · exfalso; replace h57f := of_decide_eq_false h57f; omega
  try replace h56f := of_decide_eq_false h56f
  refine AW.region ?_
  refine AWL.y rfl rfl (B rfl) (Yv.eql rfl (E rfl rfl) (E rfl rfl)) ?_
  refine AWL.y rfl rfl (B rfl) (Yv.assign rfl (E rfl rfl)) ?_
  refine AWL.nil ?_
  refine AW.cond rfl (fun h58t => ?_) (fun h58f => ?_)
  ·
   try replace h58t := of_decide_eq_true h58t
   refine AW.region ?_
   refine AWL.y rfl rfl (B rfl) (Yv.move rfl (E rfl rfl)) ?_
   refine AWL.y rfl rfl (B rfl) (Yv.loadBoxA rfl ag_23 (i := 2) rfl (E rfl rfl) rfl rfl) ?_
   refine AWL.call rfl rfl (B rfl) rfl ce_32 (E rfl rfl) (evsC (E rfl rfl) (evsC (E rfl rfl) evs0)) (S1 := CB _ _ _ _) (S2 := [_]) rfl (memory39 b11 _ _ _ i hd hs hc (by simp)) ?_
   rintro t156 S156 ⟨A156, c156, e156, rfl⟩
   refine AWL.nil ?_
   refine AW.rseq ?_
   refine AWL.y rfl rfl (B rfl) (Yv.move rfl (E rfl rfl)) ?_
   refine AWL.y rfl rfl (B rfl) (Yv.nilChk rfl (E rfl rfl)) ?_
   refine AWL.y rfl rfl (B rfl) (Yv.fieldBox rfl fo_49_0 (E rfl rfl)) ?_
   refine AWL.y rfl rfl (B rfl) (Yv.loadBox rfl ag_24 (i := 1) rfl (E rfl rfl) rfl) ?_
   refine AWL.y rfl rfl (B rfl) (Yv.assign rfl (E rfl rfl)) ?_
   refine AWL.y rfl rfl (B rfl) (Yv.assign rfl (E rfl rfl)) ?_
   refine AWL.nil ?_
   refine AW.drop (List.take_sublist 1 _) ?_
   refine AW.ret (retI (.tmp rfl (.tmp rfl .nil)) ?_)
   rw [if_pos hval]
   refine enc_end ?_
   rw [enc6 (by rw [h58t]; rfl)]
   skip
   try simp only [List.append_assoc]
   rfl
  try replace h58f := of_decide_eq_false h58f
  refine AW.rseq ?_
  refine AWL.y rfl rfl (B rfl) (Yv.eql rfl (E rfl rfl) (E rfl rfl)) ?_
  refine AWL.y rfl rfl (B rfl) (Yv.assign rfl (E rfl rfl)) ?_
  refine AWL.nil ?_
  refine AW.cond rfl (fun h59t => ?_) (fun h59f => ?_)
  ·
   try replace h59t := of_decide_eq_true h59t
   refine AW.regionH (HeldBox b1 (insVals i)) rfl (tells_box (k := 2) rfl) ?_
   refine AWH.tk (i := 0) rfl rfl rfl (B rfl) (heldAll (freeMove rfl (E rfl rfl))) ?_
   refine AWH.tk (i := 1) rfl rfl rfl (B rfl) (heldAll (freeField rfl fo_23_1 (E rfl rfl))) ?_
   refine AWH.tk (i := 2) rfl rfl rfl (B rfl) (heldLoad rfl ag_3 (E rfl rfl) rfl) ?_
   refine AWH.tk (i := 4) rfl rfl rfl (B rfl) (heldAll (freeField rfl fo_23_1 (E rfl rfl))) ?_
   refine AWH.tk (i := 5) rfl rfl rfl (B rfl) (heldLoad rfl ag_3 (E rfl rfl) rfl) ?_
   refine AWH.two (i := 3) (j := 6) (by kernel_rfl) rfl rfl ?_ ?_
   ·
    refine AWL.call rfl rfl (B rfl) rfl ce_27 (E rfl rfl) (evsC (E rfl rfl) (evsC (E rfl rfl) (evsC (E rfl rfl) (evsC (E rfl rfl) evs0)))) (S1 := CB _ _ _ _) (S2 := [_]) rfl (rex34 _ _ _ _ _ _ _) ?_
    rintro t162 S162 ⟨rfl, A162, c162, rfl⟩
    refine tb 2 rfl ?_
    refine AWH.one (i := 6) (by kernel_rfl) rfl ?_
    refine AWL.y rfl rfl (B rfl) (Yv.andN_i64 3 8 (by decide) (by decide) (by decide) rfl (E rfl rfl) (E rfl rfl) (fun hg => ⟨by omega, by omega⟩)) ?_
    refine tb 2 rfl ?_
    refine AWH.one (i := 7) (by kernel_rfl) rfl ?_
    refine AWL.y rfl rfl (B rfl) (Yv.bits rfl rfl (E rfl rfl) (E rfl rfl)) ?_
    refine tb 2 rfl ?_
    refine AWH.one (i := 8) (by kernel_rfl) rfl ?_
    refine AWL.buildSlice1 rfl rfl (B rfl) rfl el_43 rfl (evsC (E rfl rfl) evs0) (Nat.le_of_ble_eq_true rfl) rfl rfl ?_
    refine tb 2 rfl ?_
    refine AWH.one (i := 9) (by kernel_rfl) rfl ?_
    refine AWL.call rfl rfl (B rfl) rfl ce_28 (E rfl rfl) (evsC (E rfl rfl) (evsC (E rfl rfl) evs0)) (S1 := CB _ _ _ _) (S2 := [_]) rfl (put35 _ _ _ _ [_]) ?_
    rintro t168 S168 ⟨rfl, A168, c168, rfl⟩
    refine tb 2 rfl ?_
    refine AWH.done (by kernel_rfl) ?_
    refine AW.rseq ?_
    refine AWL.y rfl rfl (B rfl) (Yv.move rfl (E rfl rfl)) ?_
    refine AWL.y rfl rfl (B rfl) (Yv.nilChk rfl (E rfl rfl)) ?_
    refine AWL.y rfl rfl (B rfl) (Yv.fieldBox rfl fo_49_0 (E rfl rfl)) ?_
    refine AWL.y rfl rfl (B rfl) (Yv.loadBox rfl ag_24 (i := 1) rfl (E rfl rfl) rfl) ?_
    refine AWL.y rfl rfl (B rfl) (Yv.assign rfl (E rfl rfl)) ?_
    refine AWL.y rfl rfl (B rfl) (Yv.assign rfl (E rfl rfl)) ?_
    refine AWL.nil ?_
    refine AW.drop (List.take_sublist 1 _) ?_
    refine AW.ret (retI (.tmp rfl (.tmp rfl .nil)) ?_)
    rw [if_pos hval]
    refine enc_end ?_
    rw [enc9 (by rw [h59t]; rfl)]
    rw [← r1]
    try simp only [List.append_assoc]
    rfl
   ·
    refine AWL.y rfl rfl (B rfl) (Yv.andN_i64 3 8 (by decide) (by decide) (by decide) rfl (E rfl rfl) (E rfl rfl) (fun hg => ⟨by omega, by omega⟩)) ?_
    refine tb 2 rfl ?_
    refine AWH.two (i := 3) (j := 7) (by kernel_rfl) rfl rfl ?_ ?_
    ·
     refine AWL.call rfl rfl (B rfl) rfl ce_27 (E rfl rfl) (evsC (E rfl rfl) (evsC (E rfl rfl) (evsC (E rfl rfl) (evsC (E rfl rfl) evs0)))) (S1 := CB _ _ _ _) (S2 := [_]) rfl (rex34 _ _ _ _ _ _ _) ?_
     rintro t162 S162 ⟨rfl, A162, c162, rfl⟩
     refine tb 2 rfl ?_
     refine AWH.one (i := 7) (by kernel_rfl) rfl ?_
     refine AWL.y rfl rfl (B rfl) (Yv.bits rfl rfl (E rfl rfl) (E rfl rfl)) ?_
     refine tb 2 rfl ?_
     refine AWH.one (i := 8) (by kernel_rfl) rfl ?_
     refine AWL.buildSlice1 rfl rfl (B rfl) rfl el_43 rfl (evsC (E rfl rfl) evs0) (Nat.le_of_ble_eq_true rfl) rfl rfl ?_
     refine tb 2 rfl ?_
     refine AWH.one (i := 9) (by kernel_rfl) rfl ?_
     refine AWL.call rfl rfl (B rfl) rfl ce_28 (E rfl rfl) (evsC (E rfl rfl) (evsC (E rfl rfl) evs0)) (S1 := CB _ _ _ _) (S2 := [_]) rfl (put35 _ _ _ _ [_]) ?_
     rintro t168 S168 ⟨rfl, A168, c168, rfl⟩
     refine tb 2 rfl ?_
     refine AWH.done (by kernel_rfl) ?_
     refine AW.rseq ?_
     refine AWL.y rfl rfl (B rfl) (Yv.move rfl (E rfl rfl)) ?_
     refine AWL.y rfl rfl (B rfl) (Yv.nilChk rfl (E rfl rfl)) ?_
     refine AWL.y rfl rfl (B rfl) (Yv.fieldBox rfl fo_49_0 (E rfl rfl)) ?_
     refine AWL.y rfl rfl (B rfl) (Yv.loadBox rfl ag_24 (i := 1) rfl (E rfl rfl) rfl) ?_
     refine AWL.y rfl rfl (B rfl) (Yv.assign rfl (E rfl rfl)) ?_
     refine AWL.y rfl rfl (B rfl) (Yv.assign rfl (E rfl rfl)) ?_
     refine AWL.nil ?_
     refine AW.drop (List.take_sublist 1 _) ?_
     refine AW.ret (retI (.tmp rfl (.tmp rfl .nil)) ?_)
     rw [if_pos hval]
     refine enc_end ?_
     rw [enc9 (by rw [h59t]; rfl)]
     rw [← r1]
     try simp only [List.append_assoc]
     rfl
    ·
     refine AWL.y rfl rfl (B rfl) (Yv.bits rfl rfl (E rfl rfl) (E rfl rfl)) ?_
     refine tb 2 rfl ?_
     refine AWH.two (i := 3) (j := 8) (by kernel_rfl) rfl rfl ?_ ?_
     ·
      refine AWL.call rfl rfl (B rfl) rfl ce_27 (E rfl rfl) (evsC (E rfl rfl) (evsC (E rfl rfl) (evsC (E rfl rfl) (evsC (E rfl rfl) evs0)))) (S1 := CB _ _ _ _) (S2 := [_]) rfl (rex34 _ _ _ _ _ _ _) ?_
      rintro t162 S162 ⟨rfl, A162, c162, rfl⟩
      refine tb 2 rfl ?_
      refine AWH.one (i := 8) (by kernel_rfl) rfl ?_
      refine AWL.buildSlice1 rfl rfl (B rfl) rfl el_43 rfl (evsC (E rfl rfl) evs0) (Nat.le_of_ble_eq_true rfl) rfl rfl ?_
      refine tb 2 rfl ?_
      refine AWH.one (i := 9) (by kernel_rfl) rfl ?_
      refine AWL.call rfl rfl (B rfl) rfl ce_28 (E rfl rfl) (evsC (E rfl rfl) (evsC (E rfl rfl) evs0)) (S1 := CB _ _ _ _) (S2 := [_]) rfl (put35 _ _ _ _ [_]) ?_
      rintro t168 S168 ⟨rfl, A168, c168, rfl⟩
      refine tb 2 rfl ?_
      refine AWH.done (by kernel_rfl) ?_
      refine AW.rseq ?_
      refine AWL.y rfl rfl (B rfl) (Yv.move rfl (E rfl rfl)) ?_
      refine AWL.y rfl rfl (B rfl) (Yv.nilChk rfl (E rfl rfl)) ?_
      refine AWL.y rfl rfl (B rfl) (Yv.fieldBox rfl fo_49_0 (E rfl rfl)) ?_
      refine AWL.y rfl rfl (B rfl) (Yv.loadBox rfl ag_24 (i := 1) rfl (E rfl rfl) rfl) ?_
      refine AWL.y rfl rfl (B rfl) (Yv.assign rfl (E rfl rfl)) ?_
      refine AWL.y rfl rfl (B rfl) (Yv.assign rfl (E rfl rfl)) ?_
      refine AWL.nil ?_
      refine AW.drop (List.take_sublist 1 _) ?_
      refine AW.ret (retI (.tmp rfl (.tmp rfl .nil)) ?_)
      rw [if_pos hval]
      refine enc_end ?_
      rw [enc9 (by rw [h59t]; rfl)]
      rw [← r1]
      try simp only [List.append_assoc]
      rfl
     ·
      refine AWL.buildSlice1 rfl rfl (B rfl) rfl el_43 rfl (evsC (E rfl rfl) evs0) (Nat.le_of_ble_eq_true rfl) rfl rfl ?_
      refine tb 2 rfl ?_
      refine AWH.one (i := 3) (by kernel_rfl) rfl ?_
      refine AWL.call rfl rfl (B rfl) rfl ce_27 (E rfl rfl) (evsC (E rfl rfl) (evsC (E rfl rfl) (evsC (E rfl rfl) (evsC (E rfl rfl) evs0)))) (S1 := CB _ _ _ _) (S2 := [_]) rfl (rex34 _ _ _ _ _ _ _) ?_
      rintro t162 S162 ⟨rfl, A162, c162, rfl⟩
      refine tb 2 rfl ?_
      refine AWH.one (i := 9) (by kernel_rfl) rfl ?_
      refine AWL.call rfl rfl (B rfl) rfl ce_28 (E rfl rfl) (evsC (E rfl rfl) (evsC (E rfl rfl) evs0)) (S1 := CB _ _ _ _) (S2 := [_]) rfl (put35 _ _ _ _ [_]) ?_
      rintro t168 S168 ⟨rfl, A168, c168, rfl⟩
      refine tb 2 rfl ?_
      refine AWH.done (by kernel_rfl) ?_
      refine AW.rseq ?_
      refine AWL.y rfl rfl (B rfl) (Yv.move rfl (E rfl rfl)) ?_
      refine AWL.y rfl rfl (B rfl) (Yv.nilChk rfl (E rfl rfl)) ?_
      refine AWL.y rfl rfl (B rfl) (Yv.fieldBox rfl fo_49_0 (E rfl rfl)) ?_
      refine AWL.y rfl rfl (B rfl) (Yv.loadBox rfl ag_24 (i := 1) rfl (E rfl rfl) rfl) ?_
      refine AWL.y rfl rfl (B rfl) (Yv.assign rfl (E rfl rfl)) ?_
      refine AWL.y rfl rfl (B rfl) (Yv.assign rfl (E rfl rfl)) ?_
      refine AWL.nil ?_
      refine AW.drop (List.take_sublist 1 _) ?_
      refine AW.ret (retI (.tmp rfl (.tmp rfl .nil)) ?_)
      rw [if_pos hval]
      refine enc_end ?_
      rw [enc9 (by rw [h59t]; rfl)]
      rw [← r1]
      try simp only [List.append_assoc]
      rfl
  try replace h59f := of_decide_eq_false h59f
  refine AW.rseq ?_
  refine AWL.y rfl rfl (B rfl) (Yv.eql rfl (E rfl rfl) (E rfl rfl)) ?_
  refine AWL.y rfl rfl (B rfl) (Yv.assign rfl (E rfl rfl)) ?_
  refine AWL.nil ?_
  refine AW.cond rfl (fun h60t => ?_) (fun h60f => ?_)
  ·
   try replace h60t := of_decide_eq_true h60t
   refine AW.regionH (HeldBox b1 (insVals i)) rfl (tells_box (k := 2) rfl) ?_
   refine AWH.tk (i := 0) rfl rfl rfl (B rfl) (heldAll (freeMove rfl (E rfl rfl))) ?_
   refine AWH.tk (i := 1) rfl rfl rfl (B rfl) (heldAll (freeField rfl fo_23_1 (E rfl rfl))) ?_
   refine AWH.tk (i := 2) rfl rfl rfl (B rfl) (heldLoad rfl ag_3 (E rfl rfl) rfl) ?_
   refine AWH.tk (i := 4) rfl rfl rfl (B rfl) (heldAll (freeField rfl fo_23_1 (E rfl rfl))) ?_
   refine AWH.tk (i := 5) rfl rfl rfl (B rfl) (heldLoad rfl ag_3 (E rfl rfl) rfl) ?_
   refine AWH.two (i := 3) (j := 6) (by kernel_rfl) rfl rfl ?_ ?_
   ·
    refine AWL.call rfl rfl (B rfl) rfl ce_27 (E rfl rfl) (evsC (E rfl rfl) (evsC (E rfl rfl) (evsC (E rfl rfl) (evsC (E rfl rfl) evs0)))) (S1 := CB _ _ _ _) (S2 := [_]) rfl (rex34 _ _ _ _ _ _ _) ?_
    rintro t174 S174 ⟨rfl, A174, c174, rfl⟩
    refine tb 2 rfl ?_
    refine AWH.one (i := 6) (by kernel_rfl) rfl ?_
    refine AWL.y rfl rfl (B rfl) (Yv.andN_i64 3 8 (by decide) (by decide) (by decide) rfl (E rfl rfl) (E rfl rfl) (fun hg => ⟨by omega, by omega⟩)) ?_
    refine tb 2 rfl ?_
    refine AWH.one (i := 7) (by kernel_rfl) rfl ?_
    refine AWL.y rfl rfl (B rfl) (Yv.bits rfl rfl (E rfl rfl) (E rfl rfl)) ?_
    refine tb 2 rfl ?_
    refine AWH.one (i := 8) (by kernel_rfl) rfl ?_
    refine AWL.buildSlice1 rfl rfl (B rfl) rfl el_43 rfl (evsC (E rfl rfl) evs0) (Nat.le_of_ble_eq_true rfl) rfl rfl ?_
    refine tb 2 rfl ?_
    refine AWH.one (i := 9) (by kernel_rfl) rfl ?_
    refine AWL.call rfl rfl (B rfl) rfl ce_28 (E rfl rfl) (evsC (E rfl rfl) (evsC (E rfl rfl) evs0)) (S1 := CB _ _ _ _) (S2 := [_]) rfl (put35 _ _ _ _ [_]) ?_
    rintro t180 S180 ⟨rfl, A180, c180, rfl⟩
    refine tb 2 rfl ?_
    refine AWH.done (by kernel_rfl) ?_
    refine AW.rseq ?_
    refine AWL.y rfl rfl (B rfl) (Yv.move rfl (E rfl rfl)) ?_
    refine AWL.y rfl rfl (B rfl) (Yv.nilChk rfl (E rfl rfl)) ?_
    refine AWL.y rfl rfl (B rfl) (Yv.fieldBox rfl fo_49_0 (E rfl rfl)) ?_
    refine AWL.y rfl rfl (B rfl) (Yv.loadBox rfl ag_24 (i := 1) rfl (E rfl rfl) rfl) ?_
    refine AWL.y rfl rfl (B rfl) (Yv.assign rfl (E rfl rfl)) ?_
    refine AWL.y rfl rfl (B rfl) (Yv.assign rfl (E rfl rfl)) ?_
    refine AWL.nil ?_
    refine AW.drop (List.take_sublist 1 _) ?_
    refine AW.ret (retI (.tmp rfl (.tmp rfl .nil)) ?_)
    rw [if_pos hval]
    refine enc_end ?_
    rw [enc10 (by rw [h60t]; rfl)]
    rw [← r2]
    try simp only [List.append_assoc]
    rfl
   ·
    refine AWL.y rfl rfl (B rfl) (Yv.andN_i64 3 8 (by decide) (by decide) (by decide) rfl (E rfl rfl) (E rfl rfl) (fun hg => ⟨by omega, by omega⟩)) ?_
    refine tb 2 rfl ?_
    refine AWH.two (i := 3) (j := 7) (by kernel_rfl) rfl rfl ?_ ?_
    ·
     refine AWL.call rfl rfl (B rfl) rfl ce_27 (E rfl rfl) (evsC (E rfl rfl) (evsC (E rfl rfl) (evsC (E rfl rfl) (evsC (E rfl rfl) evs0)))) (S1 := CB _ _ _ _) (S2 := [_]) rfl (rex34 _ _ _ _ _ _ _) ?_
     rintro t174 S174 ⟨rfl, A174, c174, rfl⟩
     refine tb 2 rfl ?_
     refine AWH.one (i := 7) (by kernel_rfl) rfl ?_
     refine AWL.y rfl rfl (B rfl) (Yv.bits rfl rfl (E rfl rfl) (E rfl rfl)) ?_
     refine tb 2 rfl ?_
     refine AWH.one (i := 8) (by kernel_rfl) rfl ?_
     refine AWL.buildSlice1 rfl rfl (B rfl) rfl el_43 rfl (evsC (E rfl rfl) evs0) (Nat.le_of_ble_eq_true rfl) rfl rfl ?_
     refine tb 2 rfl ?_
     refine AWH.one (i := 9) (by kernel_rfl) rfl ?_
     refine AWL.call rfl rfl (B rfl) rfl ce_28 (E rfl rfl) (evsC (E rfl rfl) (evsC (E rfl rfl) evs0)) (S1 := CB _ _ _ _) (S2 := [_]) rfl (put35 _ _ _ _ [_]) ?_
     rintro t180 S180 ⟨rfl, A180, c180, rfl⟩
     refine tb 2 rfl ?_
     refine AWH.done (by kernel_rfl) ?_
     refine AW.rseq ?_
     refine AWL.y rfl rfl (B rfl) (Yv.move rfl (E rfl rfl)) ?_
     refine AWL.y rfl rfl (B rfl) (Yv.nilChk rfl (E rfl rfl)) ?_
     refine AWL.y rfl rfl (B rfl) (Yv.fieldBox rfl fo_49_0 (E rfl rfl)) ?_
     refine AWL.y rfl rfl (B rfl) (Yv.loadBox rfl ag_24 (i := 1) rfl (E rfl rfl) rfl) ?_
     refine AWL.y rfl rfl (B rfl) (Yv.assign rfl (E rfl rfl)) ?_
     refine AWL.y rfl rfl (B rfl) (Yv.assign rfl (E rfl rfl)) ?_
     refine AWL.nil ?_
     refine AW.drop (List.take_sublist 1 _) ?_
     refine AW.ret (retI (.tmp rfl (.tmp rfl .nil)) ?_)
     rw [if_pos hval]
     refine enc_end ?_
     rw [enc10 (by rw [h60t]; rfl)]
     rw [← r2]
     try simp only [List.append_assoc]
     rfl
    ·
     refine AWL.y rfl rfl (B rfl) (Yv.bits rfl rfl (E rfl rfl) (E rfl rfl)) ?_
     refine tb 2 rfl ?_
     refine AWH.two (i := 3) (j := 8) (by kernel_rfl) rfl rfl ?_ ?_
     ·
      refine AWL.call rfl rfl (B rfl) rfl ce_27 (E rfl rfl) (evsC (E rfl rfl) (evsC (E rfl rfl) (evsC (E rfl rfl) (evsC (E rfl rfl) evs0)))) (S1 := CB _ _ _ _) (S2 := [_]) rfl (rex34 _ _ _ _ _ _ _) ?_
      rintro t174 S174 ⟨rfl, A174, c174, rfl⟩
      refine tb 2 rfl ?_
      refine AWH.one (i := 8) (by kernel_rfl) rfl ?_
      refine AWL.buildSlice1 rfl rfl (B rfl) rfl el_43 rfl (evsC (E rfl rfl) evs0) (Nat.le_of_ble_eq_true rfl) rfl rfl ?_
      refine tb 2 rfl ?_
      refine AWH.one (i := 9) (by kernel_rfl) rfl ?_
      refine AWL.call rfl rfl (B rfl) rfl ce_28 (E rfl rfl) (evsC (E rfl rfl) (evsC (E rfl rfl) evs0)) (S1 := CB _ _ _ _) (S2 := [_]) rfl (put35 _ _ _ _ [_]) ?_
      rintro t180 S180 ⟨rfl, A180, c180, rfl⟩
      refine tb 2 rfl ?_
      refine AWH.done (by kernel_rfl) ?_
      refine AW.rseq ?_
      refine AWL.y rfl rfl (B rfl) (Yv.move rfl (E rfl rfl)) ?_
      refine AWL.y rfl rfl (B rfl) (Yv.nilChk rfl (E rfl rfl)) ?_
      refine AWL.y rfl rfl (B rfl) (Yv.fieldBox rfl fo_49_0 (E rfl rfl)) ?_
      refine AWL.y rfl rfl (B rfl) (Yv.loadBox rfl ag_24 (i := 1) rfl (E rfl rfl) rfl) ?_
      refine AWL.y rfl rfl (B rfl) (Yv.assign rfl (E rfl rfl)) ?_
      refine AWL.y rfl rfl (B rfl) (Yv.assign rfl (E rfl rfl)) ?_
      refine AWL.nil ?_
      refine AW.drop (List.take_sublist 1 _) ?_
      refine AW.ret (retI (.tmp rfl (.tmp rfl .nil)) ?_)
      rw [if_pos hval]
      refine enc_end ?_
      rw [enc10 (by rw [h60t]; rfl)]
      rw [← r2]
      try simp only [List.append_assoc]
      rfl
     ·
      refine AWL.buildSlice1 rfl rfl (B rfl) rfl el_43 rfl (evsC (E rfl rfl) evs0) (Nat.le_of_ble_eq_true rfl) rfl rfl ?_
      refine tb 2 rfl ?_
      refine AWH.one (i := 3) (by kernel_rfl) rfl ?_
      refine AWL.call rfl rfl (B rfl) rfl ce_27 (E rfl rfl) (evsC (E rfl rfl) (evsC (E rfl rfl) (evsC (E rfl rfl) (evsC (E rfl rfl) evs0)))) (S1 := CB _ _ _ _) (S2 := [_]) rfl (rex34 _ _ _ _ _ _ _) ?_
      rintro t174 S174 ⟨rfl, A174, c174, rfl⟩
      refine tb 2 rfl ?_
      refine AWH.one (i := 9) (by kernel_rfl) rfl ?_
      refine AWL.call rfl rfl (B rfl) rfl ce_28 (E rfl rfl) (evsC (E rfl rfl) (evsC (E rfl rfl) evs0)) (S1 := CB _ _ _ _) (S2 := [_]) rfl (put35 _ _ _ _ [_]) ?_
      rintro t180 S180 ⟨rfl, A180, c180, rfl⟩
      refine tb 2 rfl ?_
      refine AWH.done (by kernel_rfl) ?_
      refine AW.rseq ?_
      refine AWL.y rfl rfl (B rfl) (Yv.move rfl (E rfl rfl)) ?_
      refine AWL.y rfl rfl (B rfl) (Yv.nilChk rfl (E rfl rfl)) ?_
      refine AWL.y rfl rfl (B rfl) (Yv.fieldBox rfl fo_49_0 (E rfl rfl)) ?_
      refine AWL.y rfl rfl (B rfl) (Yv.loadBox rfl ag_24 (i := 1) rfl (E rfl rfl) rfl) ?_
      refine AWL.y rfl rfl (B rfl) (Yv.assign rfl (E rfl rfl)) ?_
      refine AWL.y rfl rfl (B rfl) (Yv.assign rfl (E rfl rfl)) ?_
      refine AWL.nil ?_
      refine AW.drop (List.take_sublist 1 _) ?_
      refine AW.ret (retI (.tmp rfl (.tmp rfl .nil)) ?_)
      rw [if_pos hval]
      refine enc_end ?_
      rw [enc10 (by rw [h60t]; rfl)]
      rw [← r2]
      try simp only [List.append_assoc]
      rfl
  try replace h60f := of_decide_eq_false h60f
  refine AW.rseq ?_
  refine AWL.y rfl rfl (B rfl) (Yv.eql rfl (E rfl rfl) (E rfl rfl)) ?_
  refine AWL.y rfl rfl (B rfl) (Yv.assign rfl (E rfl rfl)) ?_
  refine AWL.nil ?_
  refine AW.cond rfl (fun h61t => ?_) (fun h61f => ?_)
  ·
   try replace h61t := of_decide_eq_true h61t
   refine AW.region ?_
   refine AWL.y rfl rfl (B rfl) (Yv.move rfl (E rfl rfl)) ?_
   refine AWL.buildSlice1 rfl rfl (B rfl) rfl el_43 rfl (evsC (E rfl rfl) evs0) (Nat.le_of_ble_eq_true rfl) rfl rfl ?_
   refine AWL.call rfl rfl (B rfl) rfl ce_28 (E rfl rfl) (evsC (E rfl rfl) (evsC (E rfl rfl) evs0)) (S1 := CB _ _ _ _) (S2 := [_]) rfl (put35 _ _ _ _ [_]) ?_
   rintro t185 S185 ⟨rfl, A185, c185, rfl⟩
   refine AWL.nil ?_
   refine AW.rseq ?_
   refine AWL.y rfl rfl (B rfl) (Yv.move rfl (E rfl rfl)) ?_
   refine AWL.y rfl rfl (B rfl) (Yv.nilChk rfl (E rfl rfl)) ?_
   refine AWL.y rfl rfl (B rfl) (Yv.fieldBox rfl fo_49_0 (E rfl rfl)) ?_
   refine AWL.y rfl rfl (B rfl) (Yv.loadBox rfl ag_24 (i := 1) rfl (E rfl rfl) rfl) ?_
   refine AWL.y rfl rfl (B rfl) (Yv.assign rfl (E rfl rfl)) ?_
   refine AWL.y rfl rfl (B rfl) (Yv.assign rfl (E rfl rfl)) ?_
   refine AWL.nil ?_
   refine AW.drop (List.take_sublist 1 _) ?_
   refine AW.ret (retI (.tmp rfl (.tmp rfl .nil)) ?_)
   rw [if_pos hval]
   refine enc_end ?_
   rw [enc11 (by rw [h61t]; rfl)]
   skip
   try simp only [List.append_assoc]
   rfl
  try replace h61f := of_decide_eq_false h61f
  refine AW.rseq ?_
  refine AWL.y rfl rfl (B rfl) (Yv.eql rfl (E rfl rfl) (E rfl rfl)) ?_
  refine AWL.y rfl rfl (B rfl) (Yv.assign rfl (E rfl rfl)) ?_
  refine AWL.nil ?_
  refine AW.cond rfl (fun h62t => ?_) (fun h62f => ?_)
  ·
   try replace h62t := of_decide_eq_true h62t
   refine AW.region ?_
   refine AWL.y rfl rfl (B rfl) (Yv.move rfl (E rfl rfl)) ?_
   refine AWL.buildSlice1 rfl rfl (B rfl) rfl el_43 rfl (evsC (E rfl rfl) (evsC (E rfl rfl) evs0)) (Nat.le_of_ble_eq_true rfl) rfl rfl ?_
   refine AWL.call rfl rfl (B rfl) rfl ce_28 (E rfl rfl) (evsC (E rfl rfl) (evsC (E rfl rfl) evs0)) (S1 := CB _ _ _ _) (S2 := [_]) rfl (put35 _ _ _ _ [_, _]) ?_
   rintro t190 S190 ⟨rfl, A190, c190, rfl⟩
   refine AWL.nil ?_
   refine AW.rseq ?_
   refine AWL.y rfl rfl (B rfl) (Yv.move rfl (E rfl rfl)) ?_
   refine AWL.y rfl rfl (B rfl) (Yv.nilChk rfl (E rfl rfl)) ?_
   refine AWL.y rfl rfl (B rfl) (Yv.fieldBox rfl fo_49_0 (E rfl rfl)) ?_
   refine AWL.y rfl rfl (B rfl) (Yv.loadBox rfl ag_24 (i := 1) rfl (E rfl rfl) rfl) ?_
   refine AWL.y rfl rfl (B rfl) (Yv.assign rfl (E rfl rfl)) ?_
   refine AWL.y rfl rfl (B rfl) (Yv.assign rfl (E rfl rfl)) ?_
   refine AWL.nil ?_
   refine AW.drop (List.take_sublist 1 _) ?_
   refine AW.ret (retI (.tmp rfl (.tmp rfl .nil)) ?_)
   rw [if_pos hval]
   refine enc_end ?_
   rw [enc12 (by rw [h62t]; rfl)]
   skip
   try simp only [List.append_assoc]
   rfl
  try replace h62f := of_decide_eq_false h62f
  refine AW.rseq ?_
  refine AWL.y rfl rfl (B rfl) (Yv.eql rfl (E rfl rfl) (E rfl rfl)) ?_
  refine AWL.y rfl rfl (B rfl) (Yv.assign rfl (E rfl rfl)) ?_
  refine AWL.nil ?_
  refine AW.cond rfl (fun h63t => ?_) (fun h63f => ?_)
  ·
   try replace h63t := of_decide_eq_true h63t
   refine AW.region ?_
   refine AWL.y rfl rfl (B rfl) (Yv.move rfl (E rfl rfl)) ?_
   refine AWL.buildSlice1 rfl rfl (B rfl) rfl el_43 rfl (evsC (E rfl rfl) (evsC (E rfl rfl) evs0)) (Nat.le_of_ble_eq_true rfl) rfl rfl ?_
   refine AWL.call rfl rfl (B rfl) rfl ce_28 (E rfl rfl) (evsC (E rfl rfl) (evsC (E rfl rfl) evs0)) (S1 := CB _ _ _ _) (S2 := [_]) rfl (put35 _ _ _ _ [_, _]) ?_
   rintro t195 S195 ⟨rfl, A195, c195, rfl⟩
   refine AWL.nil ?_
   refine AW.rseq ?_
   refine AWL.y rfl rfl (B rfl) (Yv.move rfl (E rfl rfl)) ?_
   refine AWL.y rfl rfl (B rfl) (Yv.nilChk rfl (E rfl rfl)) ?_
   refine AWL.y rfl rfl (B rfl) (Yv.fieldBox rfl fo_49_0 (E rfl rfl)) ?_
   refine AWL.y rfl rfl (B rfl) (Yv.loadBox rfl ag_24 (i := 1) rfl (E rfl rfl) rfl) ?_
   refine AWL.y rfl rfl (B rfl) (Yv.assign rfl (E rfl rfl)) ?_
   refine AWL.y rfl rfl (B rfl) (Yv.assign rfl (E rfl rfl)) ?_
   refine AWL.nil ?_
   refine AW.drop (List.take_sublist 1 _) ?_
   refine AW.ret (retI (.tmp rfl (.tmp rfl .nil)) ?_)
   rw [if_pos hval]
   refine enc_end ?_
   rw [enc13 (by rw [h63t]; rfl)]
   skip
   try simp only [List.append_assoc]
   rfl
  try replace h63f := of_decide_eq_false h63f
  refine AW.seq ?_
  refine AW.rseq ?_
  refine AWL.y rfl rfl (B rfl) (Yv.eql rfl (E rfl rfl) (E rfl rfl)) ?_
  refine AWL.y rfl rfl (B rfl) (Yv.assign rfl (E rfl rfl)) ?_
  refine AWL.nil ?_
  refine AW.cond rfl (fun h64t => ?_) (fun h64f => ?_)
  ·
   try replace h64t := of_decide_eq_true h64t
   refine AW.skip ?_
   refine AW.cond rfl (fun h65t => ?_) (fun h65f => ?_)
   ·
    try replace h65t := of_decide_eq_true h65t
    refine AW.region ?_
    refine AWL.y rfl rfl (B rfl) (Yv.move rfl (E rfl rfl)) ?_
    refine AWL.y rfl rfl (B rfl) (Yv.loadBoxA rfl ag_23 (i := 2) rfl (E rfl rfl) rfl rfl) ?_
    refine AWL.call rfl rfl (B rfl) rfl ce_33 (E rfl rfl) (evsC (E rfl rfl) (evsC (E rfl rfl) evs0)) (S1 := CB _ _ _ _) (S2 := [_]) rfl (jump40 b11 _ _ _ i hd hs hc (by simp)) ?_
    rintro t202 S202 ⟨A202, c202, e202, rfl⟩
    refine AWL.nil ?_
    refine AW.rseq ?_
    refine AWL.y rfl rfl (B rfl) (Yv.move rfl (E rfl rfl)) ?_
    refine AWL.y rfl rfl (B rfl) (Yv.nilChk rfl (E rfl rfl)) ?_
    refine AWL.y rfl rfl (B rfl) (Yv.fieldBox rfl fo_49_0 (E rfl rfl)) ?_
    refine AWL.y rfl rfl (B rfl) (Yv.loadBox rfl ag_24 (i := 1) rfl (E rfl rfl) rfl) ?_
    refine AWL.y rfl rfl (B rfl) (Yv.assign rfl (E rfl rfl)) ?_
    refine AWL.y rfl rfl (B rfl) (Yv.assign rfl (E rfl rfl)) ?_
    refine AWL.nil ?_
    refine AW.drop (List.take_sublist 1 _) ?_
    refine AW.ret (retI (.tmp rfl (.tmp rfl .nil)) ?_)
    rw [if_pos hval]
    refine enc_end ?_
    rw [enc7 (by rw [h64t]; rfl)]
    skip
    try simp only [List.append_assoc]
    rfl
   · exfalso; replace h65f := of_decide_eq_false h65f; omega
  try replace h64f := of_decide_eq_false h64f
  refine AW.rseq ?_
  refine AWL.y rfl rfl (B rfl) (Yv.eql rfl (E rfl rfl) (E rfl rfl)) ?_
  refine AWL.y rfl rfl (B rfl) (Yv.assign rfl (E rfl rfl)) ?_
  refine AWL.nil ?_
  refine AW.cond rfl (fun h66t => ?_) (fun h66f => ?_)
  ·
   try replace h66t := of_decide_eq_true h66t
   refine AW.skip ?_
   refine AW.cond rfl (fun h67t => ?_) (fun h67f => ?_)
   ·
    try replace h67t := of_decide_eq_true h67t
    refine AW.region ?_
    refine AWL.y rfl rfl (B rfl) (Yv.move rfl (E rfl rfl)) ?_
    refine AWL.y rfl rfl (B rfl) (Yv.loadBoxA rfl ag_23 (i := 2) rfl (E rfl rfl) rfl rfl) ?_
    refine AWL.call rfl rfl (B rfl) rfl ce_33 (E rfl rfl) (evsC (E rfl rfl) (evsC (E rfl rfl) evs0)) (S1 := CB _ _ _ _) (S2 := [_]) rfl (jump40 b11 _ _ _ i hd hs hc (by simp)) ?_
    rintro t202 S202 ⟨A202, c202, e202, rfl⟩
    refine AWL.nil ?_
    refine AW.rseq ?_
    refine AWL.y rfl rfl (B rfl) (Yv.move rfl (E rfl rfl)) ?_
    refine AWL.y rfl rfl (B rfl) (Yv.nilChk rfl (E rfl rfl)) ?_
    refine AWL.y rfl rfl (B rfl) (Yv.fieldBox rfl fo_49_0 (E rfl rfl)) ?_
    refine AWL.y rfl rfl (B rfl) (Yv.loadBox rfl ag_24 (i := 1) rfl (E rfl rfl) rfl) ?_
    refine AWL.y rfl rfl (B rfl) (Yv.assign rfl (E rfl rfl)) ?_
    refine AWL.y rfl rfl (B rfl) (Yv.assign rfl (E rfl rfl)) ?_
    refine AWL.nil ?_
    refine AW.drop (List.take_sublist 1 _) ?_
    refine AW.ret (retI (.tmp rfl (.tmp rfl .nil)) ?_)
    rw [if_pos hval]
    refine enc_end ?_
    rw [enc7 (by rw [h66t]; rfl)]
    skip
    try simp only [List.append_assoc]
    rfl
   · exfalso; replace h67f := of_decide_eq_false h67f; omega
  try replace h66f := of_decide_eq_false h66f
  refine AW.region ?_
  refine AWL.y rfl rfl (B rfl) (Yv.eql rfl (E rfl rfl) (E rfl rfl)) ?_
  refine AWL.y rfl rfl (B rfl) (Yv.assign rfl (E rfl rfl)) ?_
  refine AWL.nil ?_
  refine AW.cond rfl (fun h68t => ?_) (fun h68f => ?_)
  ·
   try replace h68t := of_decide_eq_true h68t
   refine AW.region ?_
   refine AWL.y rfl rfl (B rfl) (Yv.move rfl (E rfl rfl)) ?_
   refine AWL.y rfl rfl (B rfl) (Yv.loadBoxA rfl ag_23 (i := 2) rfl (E rfl rfl) rfl rfl) ?_
   refine AWL.call rfl rfl (B rfl) rfl ce_33 (E rfl rfl) (evsC (E rfl rfl) (evsC (E rfl rfl) evs0)) (S1 := CB _ _ _ _) (S2 := [_]) rfl (jump40 b11 _ _ _ i hd hs hc (by simp)) ?_
   rintro t202 S202 ⟨A202, c202, e202, rfl⟩
   refine AWL.nil ?_
   refine AW.rseq ?_
   refine AWL.y rfl rfl (B rfl) (Yv.move rfl (E rfl rfl)) ?_
   refine AWL.y rfl rfl (B rfl) (Yv.nilChk rfl (E rfl rfl)) ?_
   refine AWL.y rfl rfl (B rfl) (Yv.fieldBox rfl fo_49_0 (E rfl rfl)) ?_
   refine AWL.y rfl rfl (B rfl) (Yv.loadBox rfl ag_24 (i := 1) rfl (E rfl rfl) rfl) ?_
   refine AWL.y rfl rfl (B rfl) (Yv.assign rfl (E rfl rfl)) ?_
   refine AWL.y rfl rfl (B rfl) (Yv.assign rfl (E rfl rfl)) ?_
   refine AWL.nil ?_
   refine AW.drop (List.take_sublist 1 _) ?_
   refine AW.ret (retI (.tmp rfl (.tmp rfl .nil)) ?_)
   rw [if_pos hval]
   refine enc_end ?_
   rw [enc7 (by rw [h68t]; rfl)]
   skip
   try simp only [List.append_assoc]
   rfl
  try replace h68f := of_decide_eq_false h68f
  refine AW.region ?_
  refine AWL.y rfl rfl (B rfl) (Yv.move rfl (E rfl rfl)) ?_
  refine AWL.y rfl rfl (B rfl) (Yv.loadBoxA rfl ag_23 (i := 2) rfl (E rfl rfl) rfl rfl) ?_
  refine AWL.call rfl rfl (B rfl) rfl ce_34 (E rfl rfl) (evsC (E rfl rfl) (evsC (E rfl rfl) evs0)) (S1 := CB _ _ _ _) (S2 := [_]) rfl (far41 b11 _ _ _ i hd hs hc (by simp) (by omega)) ?_
  rintro t22 S22 ⟨A22, c22, e22, rfl⟩
  refine AWL.nil ?_
  refine AW.rseq ?_
  refine AWL.y rfl rfl (B rfl) (Yv.move rfl (E rfl rfl)) ?_
  refine AWL.y rfl rfl (B rfl) (Yv.nilChk rfl (E rfl rfl)) ?_
  refine AWL.y rfl rfl (B rfl) (Yv.fieldBox rfl fo_49_0 (E rfl rfl)) ?_
  refine AWL.y rfl rfl (B rfl) (Yv.loadBox rfl ag_24 (i := 1) rfl (E rfl rfl) rfl) ?_
  refine AWL.y rfl rfl (B rfl) (Yv.assign rfl (E rfl rfl)) ?_
  refine AWL.y rfl rfl (B rfl) (Yv.assign rfl (E rfl rfl)) ?_
  refine AWL.nil ?_
  refine AW.drop (List.take_sublist 1 _) ?_
  refine AW.ret (retI (.tmp rfl (.tmp rfl .nil)) ?_)
  rw [if_pos hval]
  refine enc_end ?_
  rw [cls_far (by omega)]
  skip
  try simp only [List.append_assoc]
  rfl

theorem encode19 (i : Ins) : ACalls Tryd.prog 11 [insT i] [] (fun t_ S => t_ = if validF i = true then .tup [u8s (encF i), .v (.int .i64 0)] else .tup [ofConst (.slice none 0 0), .v (.int .i64 200)]) := by
  intro X w args h1 h2 h3 h4 h5
  refine (encode19R i X w args h1 h2 h3 h4 h5).mono ?_
  rintro e w' ⟨v, t, S', rfl, hk, hnd, hfr, hent, hv, hR⟩
  by_cases hval : validF i = true
  · rw [if_pos hval] at hR
    obtain ⟨A, r, rfl, rfl⟩ := hR
    refine ⟨v, .tup [u8s (encF i), .v (.int .i64 0)], [], rfl, hk, by simp [M], fun b hb => (by simp [M] at hb), fun e he => (by cases he), ?_, by rw [if_pos hval]⟩
    have hL : ∀ g, A.map (·.block) = some g → g ∉ X ++ M [] := fun g hg hm => by
      have hm1 : g ∈ M [Ent.row A ((encF i).length + r.length) ((encF i).length + r.length) 5 1 ((encF i ++ r).map u8)] := mem_M.2 ⟨_, List.mem_singleton.2 rfl, hg⟩
      rcases hfr g hm1 with h | h
      · simp [M] at h
      · rcases List.mem_append.1 hm with hx | hx
        · have := (h1 g hx).1
          omega
        · simp [M] at hx
    have hT := full_tree (L' := X ++ M []) (hent _ (List.mem_singleton.2 rfl)) hL
    cases hv with
    | @tup _ ys hl h =>
      match ys, hl, h with
      | [p, q], _, h =>
        have e1 := (h 0 _ p rfl rfl).v_inv
        have e2 := (h 1 _ q rfl rfl).v_inv
        subst e1; subst e2
        refine .tup (ys := [_, _]) rfl (fun j t u f1 f2 => ?_)
        rcases j with _ | _ | j
        · simp only [List.getElem?_cons_zero, Option.some.injEq] at f1 f2
          subst f1; subst f2
          exact hT
        · simp only [List.getElem?_cons_succ, List.getElem?_cons_zero, Option.some.injEq] at f1 f2
          subst f1; subst f2
          exact .v _
        · simp at f1
  · rw [if_neg hval] at hR
    subst hR
    refine ⟨v, _, [], rfl, hk, by simp [M], fun b hb => (by simp [M] at hb), fun e he => (by cases he), hv.mono (Nat.le_refl _) (fun _ _ _ => rfl) (fun b _ hm => ?_), by rw [if_neg hval]⟩
    rcases List.mem_append.1 hm with hx | hx
    · exact List.mem_append.2 (.inl hx)
    · simp [M] at hx

end Go.Proofs.YtjndpakhmgapjaaDoor
