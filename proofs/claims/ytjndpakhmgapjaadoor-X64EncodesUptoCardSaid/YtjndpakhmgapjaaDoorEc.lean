/-
  TEXTS JOINED: Wk3.
-/
import Derived.Test.YtjndpakhmgapjaaDoorEb
set_option linter.unusedSimpArgs false
set_option linter.unusedVariables false
set_option linter.unusedSectionVars false
set_option linter.unnecessarySimpa false
namespace Go.Proofs.YtjndpakhmgapjaaDoor
open Go Go.RowKit
set_option linter.unusedVariables false
set_option linter.unnecessarySimpa false
set_option linter.unusedSimpArgs false

set_option maxHeartbeats 1000000 in
theorem memory39 (b : Nat) (A : Option Addr) (c : List UInt8) (bs : List UInt8) (i : Ins) (hd : 0 ≤ i.d ∧ i.d ≤ 15) (hs : 0 ≤ i.s ∧ i.s ≤ 15) (hc : 0 ≤ i.cond ∧ i.cond ≤ 15) (hb : bs.length ≤ 800) :
    ACalls Tryd.prog 32 [.v (cp b), insT i] (CB b A c bs) (fun t_ S => ∃ A' c' e, S = CB b A' c' (bs ++ memoryF i) ++ [e]) := by
  refine ACalls.intro Tryd.func32 rfl Tryd.ntmps32 (Nat.le_of_ble_eq_true rfl) rfl fun X w0 => ?_
  refine AW.rseq ?_
  refine AWL.boxOp rfl rfl (B rfl) rfl (E rfl rfl) rfl (fun b3 => ?_)
  refine AWL.nil ?_
  refine AW.block ?_
  refine AW.rseq ?_
  refine AWL.y rfl rfl (B rfl) (Yv.fieldBox rfl fo_23_0 (E rfl rfl)) ?_
  refine AWL.y rfl rfl (B rfl) (Yv.loadBox rfl ag_3 (i := 2) rfl (E rfl rfl) rfl) ?_
  refine AWL.y rfl rfl (B rfl) (Yv.eql rfl (E rfl rfl) (E rfl rfl)) ?_
  refine AWL.y rfl rfl (B rfl) (Yv.assign rfl (E rfl rfl)) ?_
  refine AWL.nil ?_
  refine AW.cond rfl (fun h0t => ?_) (fun h0f => ?_)
  ·
   try replace h0t := of_decide_eq_true h0t
   refine AW.regionH (HeldBox b3 (insVals i)) rfl (tells_box (k := 2) rfl) ?_
   refine AWH.tk (i := 0) rfl rfl rfl (B rfl) (heldAll (freeMove rfl (E rfl rfl))) ?_
   refine AWH.tk (i := 1) rfl rfl rfl (B rfl) (heldAll (freeField rfl fo_23_1 (E rfl rfl))) ?_
   refine AWH.tk (i := 2) rfl rfl rfl (B rfl) (heldLoad rfl ag_3 (E rfl rfl) rfl) ?_
   refine AWH.tk (i := 3) rfl rfl rfl (B rfl) (heldAll (freeField rfl fo_23_2 (E rfl rfl))) ?_
   refine AWH.tk (i := 4) rfl rfl rfl (B rfl) (heldLoad rfl ag_3 (E rfl rfl) rfl) ?_
   refine AWH.tk (i := 8) rfl rfl rfl (B rfl) (heldAll (freeField rfl fo_23_1 (E rfl rfl))) ?_
   refine AWH.tk (i := 9) rfl rfl rfl (B rfl) (heldLoad rfl ag_3 (E rfl rfl) rfl) ?_
   refine AWH.tk (i := 10) rfl rfl rfl (B rfl) (heldAll (freeField rfl fo_23_2 (E rfl rfl))) ?_
   refine AWH.tk (i := 11) rfl rfl rfl (B rfl) (heldLoad rfl ag_3 (E rfl rfl) rfl) ?_
   refine AWH.tk (i := 12) rfl rfl rfl (B rfl) (heldAll (freeField rfl fo_23_5 (E rfl rfl))) ?_
   refine AWH.tk (i := 13) rfl rfl rfl (B rfl) (heldLoad rfl ag_2 (E rfl rfl) rfl) ?_
   refine AWH.two (i := 5) (j := 6) (by kernel_rfl) rfl rfl ?_ ?_
   ·
    refine AWL.call rfl rfl (B rfl) rfl ce_27 (E rfl rfl) (evsC (E rfl rfl) (evsC (E rfl rfl) (evsC (E rfl rfl) (evsC (E rfl rfl) evs0)))) (S1 := CB _ _ _ _) (S2 := [_]) rfl (rex34 _ _ _ _ _ _ _) ?_
    rintro t31 S31 ⟨rfl, A31, c31, rfl⟩
    refine tb 2 rfl ?_
    refine AWH.one (i := 6) (by kernel_rfl) rfl ?_
    refine AWL.buildSlice1 rfl rfl (B rfl) rfl el_43 rfl (evsC (E rfl rfl) evs0) (Nat.le_of_ble_eq_true rfl) rfl rfl ?_
    refine tb 2 rfl ?_
    refine AWH.one (i := 7) (by kernel_rfl) rfl ?_
    refine AWL.call rfl rfl (B rfl) rfl ce_28 (E rfl rfl) (evsC (E rfl rfl) (evsC (E rfl rfl) evs0)) (S1 := CB _ _ _ _) (S2 := [_]) rfl (put35 _ _ _ _ [_]) ?_
    rintro t33 S33 ⟨rfl, A33, c33, rfl⟩
    refine tb 2 rfl ?_
    refine AWH.one (i := 14) (by kernel_rfl) rfl ?_
    refine AWL.call rfl rfl (B rfl) rfl ce_55 (E rfl rfl) (evsC (E rfl rfl) (evsC (E rfl rfl) (evsC (E rfl rfl) (evsC (E rfl rfl) evs0)))) (S1 := CB _ _ _ _) (S2 := [_]) rfl (mem53 _ _ _ _ _ _ _) ?_
    rintro t40 S40 ⟨rfl, A40, c40, rfl⟩
    refine tb 2 rfl ?_
    refine AWH.done (by kernel_rfl) ?_
    refine retN .nil ?_
    refine cbx_end ?_
    rw [memoryF, if_pos h0t]
    simp only [List.append_assoc]
    rfl
   ·
    refine AWL.buildSlice1 rfl rfl (B rfl) rfl el_43 rfl (evsC (E rfl rfl) evs0) (Nat.le_of_ble_eq_true rfl) rfl rfl ?_
    refine tb 2 rfl ?_
    refine AWH.one (i := 5) (by kernel_rfl) rfl ?_
    refine AWL.call rfl rfl (B rfl) rfl ce_27 (E rfl rfl) (evsC (E rfl rfl) (evsC (E rfl rfl) (evsC (E rfl rfl) (evsC (E rfl rfl) evs0)))) (S1 := CB _ _ _ _) (S2 := [_]) rfl (rex34 _ _ _ _ _ _ _) ?_
    rintro t31 S31 ⟨rfl, A31, c31, rfl⟩
    refine tb 2 rfl ?_
    refine AWH.one (i := 7) (by kernel_rfl) rfl ?_
    refine AWL.call rfl rfl (B rfl) rfl ce_28 (E rfl rfl) (evsC (E rfl rfl) (evsC (E rfl rfl) evs0)) (S1 := CB _ _ _ _) (S2 := [_]) rfl (put35 _ _ _ _ [_]) ?_
    rintro t33 S33 ⟨rfl, A33, c33, rfl⟩
    refine tb 2 rfl ?_
    refine AWH.one (i := 14) (by kernel_rfl) rfl ?_
    refine AWL.call rfl rfl (B rfl) rfl ce_55 (E rfl rfl) (evsC (E rfl rfl) (evsC (E rfl rfl) (evsC (E rfl rfl) (evsC (E rfl rfl) evs0)))) (S1 := CB _ _ _ _) (S2 := [_]) rfl (mem53 _ _ _ _ _ _ _) ?_
    rintro t40 S40 ⟨rfl, A40, c40, rfl⟩
    refine tb 2 rfl ?_
    refine AWH.done (by kernel_rfl) ?_
    refine retN .nil ?_
    refine cbx_end ?_
    rw [memoryF, if_pos h0t]
    simp only [List.append_assoc]
    rfl
  try replace h0f := of_decide_eq_false h0f
  refine AW.rseq ?_
  refine AWL.y rfl rfl (B rfl) (Yv.fieldBox rfl fo_23_0 (E rfl rfl)) ?_
  refine AWL.y rfl rfl (B rfl) (Yv.loadBox rfl ag_3 (i := 2) rfl (E rfl rfl) rfl) ?_
  refine AWL.y rfl rfl (B rfl) (Yv.eql rfl (E rfl rfl) (E rfl rfl)) ?_
  refine AWL.y rfl rfl (B rfl) (Yv.move rfl (E rfl rfl)) ?_
  refine AWL.ygT rfl rfl rfl rfl (B rfl) (Yv.fieldBox rfl fo_23_4 (E rfl rfl)) ?_
  refine AWL.ygT rfl rfl rfl rfl (B rfl) (Yv.loadBox rfl ag_3 (i := 2) rfl (Eg rfl rfl id) rfl) ?_
  refine AWL.ygT rfl rfl rfl rfl (B rfl) (Yv.eql rfl (Eg rfl rfl id) (E rfl rfl)) ?_
  refine AWL.y rfl rfl (B rfl) (Yv.pickAnd rfl (E rfl rfl) (Eg rfl rfl id)) ?_
  refine AWL.y rfl rfl (B rfl) (Yv.assign rfl (E rfl rfl)) ?_
  refine AWL.nil ?_
  refine AW.cond rfl (fun h1t => ?_) (fun h1f => ?_)
  ·
   try replace h1t := of_decide_eq_true h1t
   simp only [Bool.or_eq_true, Bool.and_eq_true, Bool.or_eq_false_iff, Bool.and_eq_false_iff, Bool.not_eq_true', Bool.not_eq_false', decide_eq_true_eq, decide_eq_false_iff_not, Decidable.not_not] at h1t
   refine AW.regionH (HeldBox b3 (insVals i)) rfl (tells_box (k := 2) rfl) ?_
   refine AWH.tk (i := 0) rfl rfl rfl (B rfl) (heldAll (freeMove rfl (E rfl rfl))) ?_
   refine AWH.tk (i := 1) rfl rfl rfl (B rfl) (heldAll (freeField rfl fo_23_1 (E rfl rfl))) ?_
   refine AWH.tk (i := 2) rfl rfl rfl (B rfl) (heldLoad rfl ag_3 (E rfl rfl) rfl) ?_
   refine AWH.tk (i := 3) rfl rfl rfl (B rfl) (heldAll (freeField rfl fo_23_2 (E rfl rfl))) ?_
   refine AWH.tk (i := 4) rfl rfl rfl (B rfl) (heldLoad rfl ag_3 (E rfl rfl) rfl) ?_
   refine AWH.tk (i := 8) rfl rfl rfl (B rfl) (heldAll (freeField rfl fo_23_1 (E rfl rfl))) ?_
   refine AWH.tk (i := 9) rfl rfl rfl (B rfl) (heldLoad rfl ag_3 (E rfl rfl) rfl) ?_
   refine AWH.tk (i := 10) rfl rfl rfl (B rfl) (heldAll (freeField rfl fo_23_2 (E rfl rfl))) ?_
   refine AWH.tk (i := 11) rfl rfl rfl (B rfl) (heldLoad rfl ag_3 (E rfl rfl) rfl) ?_
   refine AWH.tk (i := 12) rfl rfl rfl (B rfl) (heldAll (freeField rfl fo_23_5 (E rfl rfl))) ?_
   refine AWH.tk (i := 13) rfl rfl rfl (B rfl) (heldLoad rfl ag_2 (E rfl rfl) rfl) ?_
   refine AWH.two (i := 5) (j := 6) (by kernel_rfl) rfl rfl ?_ ?_
   ·
    refine AWL.call rfl rfl (B rfl) rfl ce_27 (E rfl rfl) (evsC (E rfl rfl) (evsC (E rfl rfl) (evsC (E rfl rfl) (evsC (E rfl rfl) evs0)))) (S1 := CB _ _ _ _) (S2 := [_]) rfl (rex34 _ _ _ _ _ _ _) ?_
    rintro t55 S55 ⟨rfl, A55, c55, rfl⟩
    refine tb 2 rfl ?_
    refine AWH.one (i := 6) (by kernel_rfl) rfl ?_
    refine AWL.buildSlice1 rfl rfl (B rfl) rfl el_43 rfl (evsC (E rfl rfl) (evsC (E rfl rfl) evs0)) (Nat.le_of_ble_eq_true rfl) rfl rfl ?_
    refine tb 2 rfl ?_
    refine AWH.one (i := 7) (by kernel_rfl) rfl ?_
    refine AWL.call rfl rfl (B rfl) rfl ce_28 (E rfl rfl) (evsC (E rfl rfl) (evsC (E rfl rfl) evs0)) (S1 := CB _ _ _ _) (S2 := [_]) rfl (put35 _ _ _ _ [_, _]) ?_
    rintro t57 S57 ⟨rfl, A57, c57, rfl⟩
    refine tb 2 rfl ?_
    refine AWH.one (i := 14) (by kernel_rfl) rfl ?_
    refine AWL.call rfl rfl (B rfl) rfl ce_55 (E rfl rfl) (evsC (E rfl rfl) (evsC (E rfl rfl) (evsC (E rfl rfl) (evsC (E rfl rfl) evs0)))) (S1 := CB _ _ _ _) (S2 := [_]) rfl (mem53 _ _ _ _ _ _ _) ?_
    rintro t64 S64 ⟨rfl, A64, c64, rfl⟩
    refine tb 2 rfl ?_
    refine AWH.done (by kernel_rfl) ?_
    refine retN .nil ?_
    refine cbx_end ?_
    rw [memoryF, if_neg h0f, if_pos h1t]
    simp only [List.append_assoc]
    rfl
   ·
    refine AWL.buildSlice1 rfl rfl (B rfl) rfl el_43 rfl (evsC (E rfl rfl) (evsC (E rfl rfl) evs0)) (Nat.le_of_ble_eq_true rfl) rfl rfl ?_
    refine tb 2 rfl ?_
    refine AWH.one (i := 5) (by kernel_rfl) rfl ?_
    refine AWL.call rfl rfl (B rfl) rfl ce_27 (E rfl rfl) (evsC (E rfl rfl) (evsC (E rfl rfl) (evsC (E rfl rfl) (evsC (E rfl rfl) evs0)))) (S1 := CB _ _ _ _) (S2 := [_]) rfl (rex34 _ _ _ _ _ _ _) ?_
    rintro t55 S55 ⟨rfl, A55, c55, rfl⟩
    refine tb 2 rfl ?_
    refine AWH.one (i := 7) (by kernel_rfl) rfl ?_
    refine AWL.call rfl rfl (B rfl) rfl ce_28 (E rfl rfl) (evsC (E rfl rfl) (evsC (E rfl rfl) evs0)) (S1 := CB _ _ _ _) (S2 := [_]) rfl (put35 _ _ _ _ [_, _]) ?_
    rintro t57 S57 ⟨rfl, A57, c57, rfl⟩
    refine tb 2 rfl ?_
    refine AWH.one (i := 14) (by kernel_rfl) rfl ?_
    refine AWL.call rfl rfl (B rfl) rfl ce_55 (E rfl rfl) (evsC (E rfl rfl) (evsC (E rfl rfl) (evsC (E rfl rfl) (evsC (E rfl rfl) evs0)))) (S1 := CB _ _ _ _) (S2 := [_]) rfl (mem53 _ _ _ _ _ _ _) ?_
    rintro t64 S64 ⟨rfl, A64, c64, rfl⟩
    refine tb 2 rfl ?_
    refine AWH.done (by kernel_rfl) ?_
    refine retN .nil ?_
    refine cbx_end ?_
    rw [memoryF, if_neg h0f, if_pos h1t]
    simp only [List.append_assoc]
    rfl
  try replace h1f := of_decide_eq_false h1f
  replace h1f : ¬ (i.kind = 3 ∧ i.size = 1) := by intro hh; simp [hh.1, hh.2] at h1f
  refine AW.rseq ?_
  refine AWL.y rfl rfl (B rfl) (Yv.fieldBox rfl fo_23_0 (E rfl rfl)) ?_
  refine AWL.y rfl rfl (B rfl) (Yv.loadBox rfl ag_3 (i := 2) rfl (E rfl rfl) rfl) ?_
  refine AWL.y rfl rfl (B rfl) (Yv.eql rfl (E rfl rfl) (E rfl rfl)) ?_
  refine AWL.y rfl rfl (B rfl) (Yv.assign rfl (E rfl rfl)) ?_
  refine AWL.nil ?_
  refine AW.cond rfl (fun h2t => ?_) (fun h2f => ?_)
  ·
   try replace h2t := of_decide_eq_true h2t
   refine AW.regionH (HeldBox b3 (insVals i)) rfl (tells_box (k := 2) rfl) ?_
   refine AWH.tk (i := 0) rfl rfl rfl (B rfl) (heldAll (freeMove rfl (E rfl rfl))) ?_
   refine AWH.tk (i := 1) rfl rfl rfl (B rfl) (heldAll (freeField rfl fo_23_4 (E rfl rfl))) ?_
   refine AWH.tk (i := 2) rfl rfl rfl (B rfl) (heldLoad rfl ag_3 (E rfl rfl) rfl) ?_
   refine AWH.tk (i := 4) rfl rfl rfl (B rfl) (heldAll (freeField rfl fo_23_1 (E rfl rfl))) ?_
   refine AWH.tk (i := 5) rfl rfl rfl (B rfl) (heldLoad rfl ag_3 (E rfl rfl) rfl) ?_
   refine AWH.tk (i := 6) rfl rfl rfl (B rfl) (heldAll (freeField rfl fo_23_2 (E rfl rfl))) ?_
   refine AWH.tk (i := 7) rfl rfl rfl (B rfl) (heldLoad rfl ag_3 (E rfl rfl) rfl) ?_
   refine AWH.tk (i := 11) rfl rfl rfl (B rfl) (heldAll (freeField rfl fo_23_1 (E rfl rfl))) ?_
   refine AWH.tk (i := 12) rfl rfl rfl (B rfl) (heldLoad rfl ag_3 (E rfl rfl) rfl) ?_
   refine AWH.tk (i := 13) rfl rfl rfl (B rfl) (heldAll (freeField rfl fo_23_2 (E rfl rfl))) ?_
   refine AWH.tk (i := 14) rfl rfl rfl (B rfl) (heldLoad rfl ag_3 (E rfl rfl) rfl) ?_
   refine AWH.tk (i := 15) rfl rfl rfl (B rfl) (heldAll (freeField rfl fo_23_5 (E rfl rfl))) ?_
   refine AWH.tk (i := 16) rfl rfl rfl (B rfl) (heldLoad rfl ag_2 (E rfl rfl) rfl) ?_
   refine AWH.two (i := 3) (j := 9) (by kernel_rfl) rfl rfl ?_ ?_
   ·
    refine AWL.y rfl rfl (B rfl) (Yv.eql rfl (E rfl rfl) (E rfl rfl)) ?_
    refine tb 2 rfl ?_
    refine AWH.two (i := 8) (j := 9) (by kernel_rfl) rfl rfl ?_ ?_
    ·
     refine AWL.call rfl rfl (B rfl) rfl ce_27 (E rfl rfl) (evsC (E rfl rfl) (evsC (E rfl rfl) (evsC (E rfl rfl) (evsC (E rfl rfl) evs0)))) (S1 := CB _ _ _ _) (S2 := [_]) rfl (rex34 _ _ _ _ _ _ _) ?_
     rintro t77 S77 ⟨rfl, A77, c77, rfl⟩
     refine tb 2 rfl ?_
     refine AWH.one (i := 9) (by kernel_rfl) rfl ?_
     refine AWL.buildSlice1 rfl rfl (B rfl) rfl el_43 rfl (evsC (E rfl rfl) evs0) (Nat.le_of_ble_eq_true rfl) rfl rfl ?_
     refine tb 2 rfl ?_
     refine AWH.one (i := 10) (by kernel_rfl) rfl ?_
     refine AWL.call rfl rfl (B rfl) rfl ce_28 (E rfl rfl) (evsC (E rfl rfl) (evsC (E rfl rfl) evs0)) (S1 := CB _ _ _ _) (S2 := [_]) rfl (put35 _ _ _ _ [_]) ?_
     rintro t79 S79 ⟨rfl, A79, c79, rfl⟩
     refine tb 2 rfl ?_
     refine AWH.one (i := 17) (by kernel_rfl) rfl ?_
     refine AWL.call rfl rfl (B rfl) rfl ce_55 (E rfl rfl) (evsC (E rfl rfl) (evsC (E rfl rfl) (evsC (E rfl rfl) (evsC (E rfl rfl) evs0)))) (S1 := CB _ _ _ _) (S2 := [_]) rfl (mem53 _ _ _ _ _ _ _) ?_
     rintro t86 S86 ⟨rfl, A86, c86, rfl⟩
     refine tb 2 rfl ?_
     refine AWH.done (by kernel_rfl) ?_
     refine retN .nil ?_
     refine cbx_end ?_
     rw [memoryF, if_neg h0f, if_neg h1f, if_pos h2t]
     simp only [List.append_assoc]
     rfl
    ·
     refine AWL.buildSlice1 rfl rfl (B rfl) rfl el_43 rfl (evsC (E rfl rfl) evs0) (Nat.le_of_ble_eq_true rfl) rfl rfl ?_
     refine tb 2 rfl ?_
     refine AWH.one (i := 8) (by kernel_rfl) rfl ?_
     refine AWL.call rfl rfl (B rfl) rfl ce_27 (E rfl rfl) (evsC (E rfl rfl) (evsC (E rfl rfl) (evsC (E rfl rfl) (evsC (E rfl rfl) evs0)))) (S1 := CB _ _ _ _) (S2 := [_]) rfl (rex34 _ _ _ _ _ _ _) ?_
     rintro t77 S77 ⟨rfl, A77, c77, rfl⟩
     refine tb 2 rfl ?_
     refine AWH.one (i := 10) (by kernel_rfl) rfl ?_
     refine AWL.call rfl rfl (B rfl) rfl ce_28 (E rfl rfl) (evsC (E rfl rfl) (evsC (E rfl rfl) evs0)) (S1 := CB _ _ _ _) (S2 := [_]) rfl (put35 _ _ _ _ [_]) ?_
     rintro t79 S79 ⟨rfl, A79, c79, rfl⟩
     refine tb 2 rfl ?_
     refine AWH.one (i := 17) (by kernel_rfl) rfl ?_
     refine AWL.call rfl rfl (B rfl) rfl ce_55 (E rfl rfl) (evsC (E rfl rfl) (evsC (E rfl rfl) (evsC (E rfl rfl) (evsC (E rfl rfl) evs0)))) (S1 := CB _ _ _ _) (S2 := [_]) rfl (mem53 _ _ _ _ _ _ _) ?_
     rintro t86 S86 ⟨rfl, A86, c86, rfl⟩
     refine tb 2 rfl ?_
     refine AWH.done (by kernel_rfl) ?_
     refine retN .nil ?_
     refine cbx_end ?_
     rw [memoryF, if_neg h0f, if_neg h1f, if_pos h2t]
     simp only [List.append_assoc]
     rfl
   ·
    refine AWL.buildSlice1 rfl rfl (B rfl) rfl el_43 rfl (evsC (E rfl rfl) evs0) (Nat.le_of_ble_eq_true rfl) rfl rfl ?_
    refine tb 2 rfl ?_
    refine AWH.one (i := 3) (by kernel_rfl) rfl ?_
    refine AWL.y rfl rfl (B rfl) (Yv.eql rfl (E rfl rfl) (E rfl rfl)) ?_
    refine tb 2 rfl ?_
    refine AWH.one (i := 8) (by kernel_rfl) rfl ?_
    refine AWL.call rfl rfl (B rfl) rfl ce_27 (E rfl rfl) (evsC (E rfl rfl) (evsC (E rfl rfl) (evsC (E rfl rfl) (evsC (E rfl rfl) evs0)))) (S1 := CB _ _ _ _) (S2 := [_]) rfl (rex34 _ _ _ _ _ _ _) ?_
    rintro t77 S77 ⟨rfl, A77, c77, rfl⟩
    refine tb 2 rfl ?_
    refine AWH.one (i := 10) (by kernel_rfl) rfl ?_
    refine AWL.call rfl rfl (B rfl) rfl ce_28 (E rfl rfl) (evsC (E rfl rfl) (evsC (E rfl rfl) evs0)) (S1 := CB _ _ _ _) (S2 := [_]) rfl (put35 _ _ _ _ [_]) ?_
    rintro t79 S79 ⟨rfl, A79, c79, rfl⟩
    refine tb 2 rfl ?_
    refine AWH.one (i := 17) (by kernel_rfl) rfl ?_
    refine AWL.call rfl rfl (B rfl) rfl ce_55 (E rfl rfl) (evsC (E rfl rfl) (evsC (E rfl rfl) (evsC (E rfl rfl) (evsC (E rfl rfl) evs0)))) (S1 := CB _ _ _ _) (S2 := [_]) rfl (mem53 _ _ _ _ _ _ _) ?_
    rintro t86 S86 ⟨rfl, A86, c86, rfl⟩
    refine tb 2 rfl ?_
    refine AWH.done (by kernel_rfl) ?_
    refine retN .nil ?_
    refine cbx_end ?_
    rw [memoryF, if_neg h0f, if_neg h1f, if_pos h2t]
    simp only [List.append_assoc]
    rfl
  try replace h2f := of_decide_eq_false h2f
  refine AW.rseq ?_
  refine AWL.y rfl rfl (B rfl) (Yv.fieldBox rfl fo_23_4 (E rfl rfl)) ?_
  refine AWL.y rfl rfl (B rfl) (Yv.loadBox rfl ag_3 (i := 2) rfl (E rfl rfl) rfl) ?_
  refine AWL.y rfl rfl (B rfl) (Yv.eql rfl (E rfl rfl) (E rfl rfl)) ?_
  refine AWL.y rfl rfl (B rfl) (Yv.assign rfl (E rfl rfl)) ?_
  refine AWL.nil ?_
  refine AW.cond rfl (fun h3t => ?_) (fun h3f => ?_)
  ·
   try replace h3t := of_decide_eq_true h3t
   refine AW.regionH (HeldBox b3 (insVals i)) rfl (tells_box (k := 2) rfl) ?_
   refine AWH.tk (i := 0) rfl rfl rfl (B rfl) (heldAll (freeMove rfl (E rfl rfl))) ?_
   refine AWH.tk (i := 1) rfl rfl rfl (B rfl) (heldAll (freeField rfl fo_23_2 (E rfl rfl))) ?_
   refine AWH.tk (i := 2) rfl rfl rfl (B rfl) (heldLoad rfl ag_3 (E rfl rfl) rfl) ?_
   refine AWH.tk (i := 3) rfl rfl rfl (B rfl) (heldAll (freeField rfl fo_23_1 (E rfl rfl))) ?_
   refine AWH.tk (i := 4) rfl rfl rfl (B rfl) (heldLoad rfl ag_3 (E rfl rfl) rfl) ?_
   refine AWH.tk (i := 8) rfl rfl rfl (B rfl) (heldAll (freeField rfl fo_23_2 (E rfl rfl))) ?_
   refine AWH.tk (i := 9) rfl rfl rfl (B rfl) (heldLoad rfl ag_3 (E rfl rfl) rfl) ?_
   refine AWH.tk (i := 10) rfl rfl rfl (B rfl) (heldAll (freeField rfl fo_23_1 (E rfl rfl))) ?_
   refine AWH.tk (i := 11) rfl rfl rfl (B rfl) (heldLoad rfl ag_3 (E rfl rfl) rfl) ?_
   refine AWH.tk (i := 12) rfl rfl rfl (B rfl) (heldAll (freeField rfl fo_23_5 (E rfl rfl))) ?_
   refine AWH.tk (i := 13) rfl rfl rfl (B rfl) (heldLoad rfl ag_2 (E rfl rfl) rfl) ?_
   refine AWH.two (i := 5) (j := 6) (by kernel_rfl) rfl rfl ?_ ?_
   ·
    refine AWL.call rfl rfl (B rfl) rfl ce_27 (E rfl rfl) (evsC (E rfl rfl) (evsC (E rfl rfl) (evsC (E rfl rfl) (evsC (E rfl rfl) evs0)))) (S1 := CB _ _ _ _) (S2 := [_]) rfl (rex34 _ _ _ _ _ _ _) ?_
    rintro t96 S96 ⟨rfl, A96, c96, rfl⟩
    refine tb 2 rfl ?_
    refine AWH.one (i := 6) (by kernel_rfl) rfl ?_
    refine AWL.buildSlice1 rfl rfl (B rfl) rfl el_43 rfl (evsC (E rfl rfl) evs0) (Nat.le_of_ble_eq_true rfl) rfl rfl ?_
    refine tb 2 rfl ?_
    refine AWH.one (i := 7) (by kernel_rfl) rfl ?_
    refine AWL.call rfl rfl (B rfl) rfl ce_28 (E rfl rfl) (evsC (E rfl rfl) (evsC (E rfl rfl) evs0)) (S1 := CB _ _ _ _) (S2 := [_]) rfl (put35 _ _ _ _ [_]) ?_
    rintro t98 S98 ⟨rfl, A98, c98, rfl⟩
    refine tb 2 rfl ?_
    refine AWH.one (i := 14) (by kernel_rfl) rfl ?_
    refine AWL.call rfl rfl (B rfl) rfl ce_55 (E rfl rfl) (evsC (E rfl rfl) (evsC (E rfl rfl) (evsC (E rfl rfl) (evsC (E rfl rfl) evs0)))) (S1 := CB _ _ _ _) (S2 := [_]) rfl (mem53 _ _ _ _ _ _ _) ?_
    rintro t105 S105 ⟨rfl, A105, c105, rfl⟩
    refine tb 2 rfl ?_
    refine AWH.done (by kernel_rfl) ?_
    refine retN .nil ?_
    refine cbx_end ?_
    rw [memoryF, if_neg h0f, if_neg h1f, if_neg h2f, if_pos h3t]
    simp only [List.append_assoc]
    rfl
   ·
    refine AWL.buildSlice1 rfl rfl (B rfl) rfl el_43 rfl (evsC (E rfl rfl) evs0) (Nat.le_of_ble_eq_true rfl) rfl rfl ?_
    refine tb 2 rfl ?_
    refine AWH.one (i := 5) (by kernel_rfl) rfl ?_
    refine AWL.call rfl rfl (B rfl) rfl ce_27 (E rfl rfl) (evsC (E rfl rfl) (evsC (E rfl rfl) (evsC (E rfl rfl) (evsC (E rfl rfl) evs0)))) (S1 := CB _ _ _ _) (S2 := [_]) rfl (rex34 _ _ _ _ _ _ _) ?_
    rintro t96 S96 ⟨rfl, A96, c96, rfl⟩
    refine tb 2 rfl ?_
    refine AWH.one (i := 7) (by kernel_rfl) rfl ?_
    refine AWL.call rfl rfl (B rfl) rfl ce_28 (E rfl rfl) (evsC (E rfl rfl) (evsC (E rfl rfl) evs0)) (S1 := CB _ _ _ _) (S2 := [_]) rfl (put35 _ _ _ _ [_]) ?_
    rintro t98 S98 ⟨rfl, A98, c98, rfl⟩
    refine tb 2 rfl ?_
    refine AWH.one (i := 14) (by kernel_rfl) rfl ?_
    refine AWL.call rfl rfl (B rfl) rfl ce_55 (E rfl rfl) (evsC (E rfl rfl) (evsC (E rfl rfl) (evsC (E rfl rfl) (evsC (E rfl rfl) evs0)))) (S1 := CB _ _ _ _) (S2 := [_]) rfl (mem53 _ _ _ _ _ _ _) ?_
    rintro t105 S105 ⟨rfl, A105, c105, rfl⟩
    refine tb 2 rfl ?_
    refine AWH.done (by kernel_rfl) ?_
    refine retN .nil ?_
    refine cbx_end ?_
    rw [memoryF, if_neg h0f, if_neg h1f, if_neg h2f, if_pos h3t]
    simp only [List.append_assoc]
    rfl
  try replace h3f := of_decide_eq_false h3f
  refine AW.regionH (HeldBox b3 (insVals i)) rfl (tells_box (k := 2) rfl) ?_
  refine AWH.tk (i := 0) rfl rfl rfl (B rfl) (heldAll (freeMove rfl (E rfl rfl))) ?_
  refine AWH.tk (i := 1) rfl rfl rfl (B rfl) (heldAll (freeField rfl fo_23_4 (E rfl rfl))) ?_
  refine AWH.tk (i := 2) rfl rfl rfl (B rfl) (heldLoad rfl ag_3 (E rfl rfl) rfl) ?_
  refine AWH.tk (i := 4) rfl rfl rfl (B rfl) (heldAll (freeField rfl fo_23_2 (E rfl rfl))) ?_
  refine AWH.tk (i := 5) rfl rfl rfl (B rfl) (heldLoad rfl ag_3 (E rfl rfl) rfl) ?_
  refine AWH.tk (i := 6) rfl rfl rfl (B rfl) (heldAll (freeField rfl fo_23_1 (E rfl rfl))) ?_
  refine AWH.tk (i := 7) rfl rfl rfl (B rfl) (heldLoad rfl ag_3 (E rfl rfl) rfl) ?_
  refine AWH.tk (i := 11) rfl rfl rfl (B rfl) (heldAll (freeField rfl fo_23_2 (E rfl rfl))) ?_
  refine AWH.tk (i := 12) rfl rfl rfl (B rfl) (heldLoad rfl ag_3 (E rfl rfl) rfl) ?_
  refine AWH.tk (i := 13) rfl rfl rfl (B rfl) (heldAll (freeField rfl fo_23_1 (E rfl rfl))) ?_
  refine AWH.tk (i := 14) rfl rfl rfl (B rfl) (heldLoad rfl ag_3 (E rfl rfl) rfl) ?_
  refine AWH.tk (i := 15) rfl rfl rfl (B rfl) (heldAll (freeField rfl fo_23_5 (E rfl rfl))) ?_
  refine AWH.tk (i := 16) rfl rfl rfl (B rfl) (heldLoad rfl ag_2 (E rfl rfl) rfl) ?_
  refine AWH.two (i := 3) (j := 9) (by kernel_rfl) rfl rfl ?_ ?_
  ·
   refine AWL.y rfl rfl (B rfl) (Yv.eql rfl (E rfl rfl) (E rfl rfl)) ?_
   refine tb 2 rfl ?_
   refine AWH.two (i := 8) (j := 9) (by kernel_rfl) rfl rfl ?_ ?_
   ·
    refine AWL.call rfl rfl (B rfl) rfl ce_27 (E rfl rfl) (evsC (E rfl rfl) (evsC (E rfl rfl) (evsC (E rfl rfl) (evsC (E rfl rfl) evs0)))) (S1 := CB _ _ _ _) (S2 := [_]) rfl (rex34 _ _ _ _ _ _ _) ?_
    rintro t12 S12 ⟨rfl, A12, c12, rfl⟩
    refine tb 2 rfl ?_
    refine AWH.one (i := 9) (by kernel_rfl) rfl ?_
    refine AWL.buildSlice1 rfl rfl (B rfl) rfl el_43 rfl (evsC (E rfl rfl) evs0) (Nat.le_of_ble_eq_true rfl) rfl rfl ?_
    refine tb 2 rfl ?_
    refine AWH.one (i := 10) (by kernel_rfl) rfl ?_
    refine AWL.call rfl rfl (B rfl) rfl ce_28 (E rfl rfl) (evsC (E rfl rfl) (evsC (E rfl rfl) evs0)) (S1 := CB _ _ _ _) (S2 := [_]) rfl (put35 _ _ _ _ [_]) ?_
    rintro t14 S14 ⟨rfl, A14, c14, rfl⟩
    refine tb 2 rfl ?_
    refine AWH.one (i := 17) (by kernel_rfl) rfl ?_
    refine AWL.call rfl rfl (B rfl) rfl ce_55 (E rfl rfl) (evsC (E rfl rfl) (evsC (E rfl rfl) (evsC (E rfl rfl) (evsC (E rfl rfl) evs0)))) (S1 := CB _ _ _ _) (S2 := [_]) rfl (mem53 _ _ _ _ _ _ _) ?_
    rintro t21 S21 ⟨rfl, A21, c21, rfl⟩
    refine tb 2 rfl ?_
    refine AWH.done (by kernel_rfl) ?_
    refine retN .nil ?_
    refine cbx_end ?_
    rw [memoryF, if_neg h0f, if_neg h1f, if_neg h2f, if_neg h3f]
    simp only [List.append_assoc]
    rfl
   ·
    refine AWL.buildSlice1 rfl rfl (B rfl) rfl el_43 rfl (evsC (E rfl rfl) evs0) (Nat.le_of_ble_eq_true rfl) rfl rfl ?_
    refine tb 2 rfl ?_
    refine AWH.one (i := 8) (by kernel_rfl) rfl ?_
    refine AWL.call rfl rfl (B rfl) rfl ce_27 (E rfl rfl) (evsC (E rfl rfl) (evsC (E rfl rfl) (evsC (E rfl rfl) (evsC (E rfl rfl) evs0)))) (S1 := CB _ _ _ _) (S2 := [_]) rfl (rex34 _ _ _ _ _ _ _) ?_
    rintro t12 S12 ⟨rfl, A12, c12, rfl⟩
    refine tb 2 rfl ?_
    refine AWH.one (i := 10) (by kernel_rfl) rfl ?_
    refine AWL.call rfl rfl (B rfl) rfl ce_28 (E rfl rfl) (evsC (E rfl rfl) (evsC (E rfl rfl) evs0)) (S1 := CB _ _ _ _) (S2 := [_]) rfl (put35 _ _ _ _ [_]) ?_
    rintro t14 S14 ⟨rfl, A14, c14, rfl⟩
    refine tb 2 rfl ?_
    refine AWH.one (i := 17) (by kernel_rfl) rfl ?_
    refine AWL.call rfl rfl (B rfl) rfl ce_55 (E rfl rfl) (evsC (E rfl rfl) (evsC (E rfl rfl) (evsC (E rfl rfl) (evsC (E rfl rfl) evs0)))) (S1 := CB _ _ _ _) (S2 := [_]) rfl (mem53 _ _ _ _ _ _ _) ?_
    rintro t21 S21 ⟨rfl, A21, c21, rfl⟩
    refine tb 2 rfl ?_
    refine AWH.done (by kernel_rfl) ?_
    refine retN .nil ?_
    refine cbx_end ?_
    rw [memoryF, if_neg h0f, if_neg h1f, if_neg h2f, if_neg h3f]
    simp only [List.append_assoc]
    rfl
  ·
   refine AWL.buildSlice1 rfl rfl (B rfl) rfl el_43 rfl (evsC (E rfl rfl) evs0) (Nat.le_of_ble_eq_true rfl) rfl rfl ?_
   refine tb 2 rfl ?_
   refine AWH.one (i := 3) (by kernel_rfl) rfl ?_
   refine AWL.y rfl rfl (B rfl) (Yv.eql rfl (E rfl rfl) (E rfl rfl)) ?_
   refine tb 2 rfl ?_
   refine AWH.one (i := 8) (by kernel_rfl) rfl ?_
   refine AWL.call rfl rfl (B rfl) rfl ce_27 (E rfl rfl) (evsC (E rfl rfl) (evsC (E rfl rfl) (evsC (E rfl rfl) (evsC (E rfl rfl) evs0)))) (S1 := CB _ _ _ _) (S2 := [_]) rfl (rex34 _ _ _ _ _ _ _) ?_
   rintro t12 S12 ⟨rfl, A12, c12, rfl⟩
   refine tb 2 rfl ?_
   refine AWH.one (i := 10) (by kernel_rfl) rfl ?_
   refine AWL.call rfl rfl (B rfl) rfl ce_28 (E rfl rfl) (evsC (E rfl rfl) (evsC (E rfl rfl) evs0)) (S1 := CB _ _ _ _) (S2 := [_]) rfl (put35 _ _ _ _ [_]) ?_
   rintro t14 S14 ⟨rfl, A14, c14, rfl⟩
   refine tb 2 rfl ?_
   refine AWH.one (i := 17) (by kernel_rfl) rfl ?_
   refine AWL.call rfl rfl (B rfl) rfl ce_55 (E rfl rfl) (evsC (E rfl rfl) (evsC (E rfl rfl) (evsC (E rfl rfl) (evsC (E rfl rfl) evs0)))) (S1 := CB _ _ _ _) (S2 := [_]) rfl (mem53 _ _ _ _ _ _ _) ?_
   rintro t21 S21 ⟨rfl, A21, c21, rfl⟩
   refine tb 2 rfl ?_
   refine AWH.done (by kernel_rfl) ?_
   refine retN .nil ?_
   refine cbx_end ?_
   rw [memoryF, if_neg h0f, if_neg h1f, if_neg h2f, if_neg h3f]
   simp only [List.append_assoc]
   rfl

set_option maxHeartbeats 1000000 in
theorem jump40 (b : Nat) (A : Option Addr) (c : List UInt8) (bs : List UInt8) (i : Ins) (hd : 0 ≤ i.d ∧ i.d ≤ 15) (hs : 0 ≤ i.s ∧ i.s ≤ 15) (hc : 0 ≤ i.cond ∧ i.cond ≤ 15) (hb : bs.length ≤ 800) :
    ACalls Tryd.prog 33 [.v (cp b), insT i] (CB b A c bs) (fun t_ S => ∃ A' c' e, S = CB b A' c' (bs ++ jumpF i) ++ [e]) := by
  obtain ⟨o1, o2, o3, o4⟩ := or_cond i.cond hc
  refine ACalls.intro Tryd.func33 rfl Tryd.ntmps33 (Nat.le_of_ble_eq_true rfl) rfl fun X w0 => ?_
  refine AW.rseq ?_
  refine AWL.boxOp rfl rfl (B rfl) rfl (E rfl rfl) rfl (fun b3 => ?_)
  refine AWL.nil ?_
  refine AW.block ?_
  refine AW.rseq ?_
  refine AWL.y rfl rfl (B rfl) (Yv.fieldBox rfl fo_23_0 (E rfl rfl)) ?_
  refine AWL.y rfl rfl (B rfl) (Yv.loadBox rfl ag_3 (i := 2) rfl (E rfl rfl) rfl) ?_
  refine AWL.y rfl rfl (B rfl) (Yv.eql rfl (E rfl rfl) (E rfl rfl)) ?_
  refine AWL.y rfl rfl (B rfl) (Yv.assign rfl (E rfl rfl)) ?_
  refine AWL.nil ?_
  refine AW.cond rfl (fun h0t => ?_) (fun h0f => ?_)
  ·
   try replace h0t := of_decide_eq_true h0t
   refine AW.regionH (HeldBox b3 (insVals i)) rfl (tells_box (k := 2) rfl) ?_
   refine AWH.tk (i := 0) rfl rfl rfl (B rfl) (heldAll (freeMove rfl (E rfl rfl))) ?_
   refine AWH.tk (i := 3) rfl rfl rfl (B rfl) (heldAll (freeField rfl fo_23_5 (E rfl rfl))) ?_
   refine AWH.tk (i := 4) rfl rfl rfl (B rfl) (heldLoad rfl ag_2 (E rfl rfl) rfl) ?_
   refine AWH.one (i := 1) (by kernel_rfl) rfl ?_
   refine AWL.buildSlice1 rfl rfl (B rfl) rfl el_43 rfl (evsC (E rfl rfl) evs0) (Nat.le_of_ble_eq_true rfl) rfl rfl ?_
   refine tb 2 rfl ?_
   refine AWH.one (i := 2) (by kernel_rfl) rfl ?_
   refine AWL.call rfl rfl (B rfl) rfl ce_28 (E rfl rfl) (evsC (E rfl rfl) (evsC (E rfl rfl) evs0)) (S1 := CB _ _ _ _) (S2 := [_]) rfl (put35 _ _ _ _ [_]) ?_
   rintro t19 S19 ⟨rfl, A19, c19, rfl⟩
   refine tb 2 rfl ?_
   refine AWH.one (i := 5) (by kernel_rfl) rfl ?_
   refine AWL.call rfl rfl (B rfl) rfl ce_30 (E rfl rfl) (evsC (E rfl rfl) (evsC (E rfl rfl) (evsC (E rfl rfl) evs0))) (S1 := CB _ _ _ _) (S2 := [_]) rfl (imm37 _ _ _ _ _ 4) ?_
   rintro t22 S22 ⟨rfl, A22, c22, rfl⟩
   refine tb 2 rfl ?_
   refine AWH.done (by kernel_rfl) ?_
   refine retN .nil ?_
   refine cbx_end ?_
   rw [jumpF, if_pos h0t]
   skip
   simp only [List.append_assoc]
   rfl
  try replace h0f := of_decide_eq_false h0f
  refine AW.rseq ?_
  refine AWL.y rfl rfl (B rfl) (Yv.fieldBox rfl fo_23_0 (E rfl rfl)) ?_
  refine AWL.y rfl rfl (B rfl) (Yv.loadBox rfl ag_3 (i := 2) rfl (E rfl rfl) rfl) ?_
  refine AWL.y rfl rfl (B rfl) (Yv.eql rfl (E rfl rfl) (E rfl rfl)) ?_
  refine AWL.y rfl rfl (B rfl) (Yv.move rfl (E rfl rfl)) ?_
  refine AWL.ygT rfl rfl rfl rfl (B rfl) (Yv.fieldBox rfl fo_23_4 (E rfl rfl)) ?_
  refine AWL.ygT rfl rfl rfl rfl (B rfl) (Yv.loadBox rfl ag_3 (i := 2) rfl (Eg rfl rfl id) rfl) ?_
  refine AWL.ygT rfl rfl rfl rfl (B rfl) (Yv.eql rfl (Eg rfl rfl id) (E rfl rfl)) ?_
  refine AWL.y rfl rfl (B rfl) (Yv.pickAnd rfl (E rfl rfl) (Eg rfl rfl id)) ?_
  refine AWL.y rfl rfl (B rfl) (Yv.assign rfl (E rfl rfl)) ?_
  refine AWL.nil ?_
  refine AW.cond rfl (fun h1t => ?_) (fun h1f => ?_)
  ·
   try replace h1t := of_decide_eq_true h1t
   simp only [Bool.or_eq_true, Bool.and_eq_true, Bool.or_eq_false_iff, Bool.and_eq_false_iff, Bool.not_eq_true', Bool.not_eq_false', decide_eq_true_eq, decide_eq_false_iff_not, Decidable.not_not] at h1t
   refine AW.regionH (HeldBox b3 (insVals i)) rfl (tells_box (k := 2) rfl) ?_
   refine AWH.tk (i := 0) rfl rfl rfl (B rfl) (heldAll (freeMove rfl (E rfl rfl))) ?_
   refine AWH.tk (i := 3) rfl rfl rfl (B rfl) (heldAll (freeField rfl fo_23_5 (E rfl rfl))) ?_
   refine AWH.tk (i := 4) rfl rfl rfl (B rfl) (heldLoad rfl ag_2 (E rfl rfl) rfl) ?_
   refine AWH.one (i := 1) (by kernel_rfl) rfl ?_
   refine AWL.buildSlice1 rfl rfl (B rfl) rfl el_43 rfl (evsC (E rfl rfl) evs0) (Nat.le_of_ble_eq_true rfl) rfl rfl ?_
   refine tb 2 rfl ?_
   refine AWH.one (i := 2) (by kernel_rfl) rfl ?_
   refine AWL.call rfl rfl (B rfl) rfl ce_28 (E rfl rfl) (evsC (E rfl rfl) (evsC (E rfl rfl) evs0)) (S1 := CB _ _ _ _) (S2 := [_]) rfl (put35 _ _ _ _ [_]) ?_
   rintro t34 S34 ⟨rfl, A34, c34, rfl⟩
   refine tb 2 rfl ?_
   refine AWH.one (i := 5) (by kernel_rfl) rfl ?_
   refine AWL.call rfl rfl (B rfl) rfl ce_30 (E rfl rfl) (evsC (E rfl rfl) (evsC (E rfl rfl) (evsC (E rfl rfl) evs0))) (S1 := CB _ _ _ _) (S2 := [_]) rfl (imm37 _ _ _ _ _ 1) ?_
   rintro t37 S37 ⟨rfl, A37, c37, rfl⟩
   refine tb 2 rfl ?_
   refine AWH.done (by kernel_rfl) ?_
   refine retN .nil ?_
   refine cbx_end ?_
   rw [jumpF, if_neg h0f, if_pos h1t]
   skip
   simp only [List.append_assoc]
   rfl
  try replace h1f := of_decide_eq_false h1f
  replace h1f : ¬ (i.kind = 35 ∧ i.size = 1) := by intro hh; simp [hh.1, hh.2] at h1f
  refine AW.rseq ?_
  refine AWL.y rfl rfl (B rfl) (Yv.fieldBox rfl fo_23_0 (E rfl rfl)) ?_
  refine AWL.y rfl rfl (B rfl) (Yv.loadBox rfl ag_3 (i := 2) rfl (E rfl rfl) rfl) ?_
  refine AWL.y rfl rfl (B rfl) (Yv.eql rfl (E rfl rfl) (E rfl rfl)) ?_
  refine AWL.y rfl rfl (B rfl) (Yv.assign rfl (E rfl rfl)) ?_
  refine AWL.nil ?_
  refine AW.cond rfl (fun h2t => ?_) (fun h2f => ?_)
  ·
   try replace h2t := of_decide_eq_true h2t
   refine AW.regionH (HeldBox b3 (insVals i)) rfl (tells_box (k := 2) rfl) ?_
   refine AWH.tk (i := 0) rfl rfl rfl (B rfl) (heldAll (freeMove rfl (E rfl rfl))) ?_
   refine AWH.tk (i := 3) rfl rfl rfl (B rfl) (heldAll (freeField rfl fo_23_5 (E rfl rfl))) ?_
   refine AWH.tk (i := 4) rfl rfl rfl (B rfl) (heldLoad rfl ag_2 (E rfl rfl) rfl) ?_
   refine AWH.one (i := 1) (by kernel_rfl) rfl ?_
   refine AWL.buildSlice1 rfl rfl (B rfl) rfl el_43 rfl (evsC (E rfl rfl) evs0) (Nat.le_of_ble_eq_true rfl) rfl rfl ?_
   refine tb 2 rfl ?_
   refine AWH.one (i := 2) (by kernel_rfl) rfl ?_
   refine AWL.call rfl rfl (B rfl) rfl ce_28 (E rfl rfl) (evsC (E rfl rfl) (evsC (E rfl rfl) evs0)) (S1 := CB _ _ _ _) (S2 := [_]) rfl (put35 _ _ _ _ [_]) ?_
   rintro t44 S44 ⟨rfl, A44, c44, rfl⟩
   refine tb 2 rfl ?_
   refine AWH.one (i := 5) (by kernel_rfl) rfl ?_
   refine AWL.call rfl rfl (B rfl) rfl ce_30 (E rfl rfl) (evsC (E rfl rfl) (evsC (E rfl rfl) (evsC (E rfl rfl) evs0))) (S1 := CB _ _ _ _) (S2 := [_]) rfl (imm37 _ _ _ _ _ 4) ?_
   rintro t47 S47 ⟨rfl, A47, c47, rfl⟩
   refine tb 2 rfl ?_
   refine AWH.done (by kernel_rfl) ?_
   refine retN .nil ?_
   refine cbx_end ?_
   rw [jumpF, if_neg h0f, if_neg h1f, if_pos h2t]
   skip
   simp only [List.append_assoc]
   rfl
  try replace h2f := of_decide_eq_false h2f
  refine AW.rseq ?_
  refine AWL.y rfl rfl (B rfl) (Yv.fieldBox rfl fo_23_4 (E rfl rfl)) ?_
  refine AWL.y rfl rfl (B rfl) (Yv.loadBox rfl ag_3 (i := 2) rfl (E rfl rfl) rfl) ?_
  refine AWL.y rfl rfl (B rfl) (Yv.eql rfl (E rfl rfl) (E rfl rfl)) ?_
  refine AWL.y rfl rfl (B rfl) (Yv.assign rfl (E rfl rfl)) ?_
  refine AWL.nil ?_
  refine AW.cond rfl (fun h3t => ?_) (fun h3f => ?_)
  ·
   try replace h3t := of_decide_eq_true h3t
   refine AW.regionH (HeldBox b3 (insVals i)) rfl (tells_box (k := 2) rfl) ?_
   refine AWH.tk (i := 0) rfl rfl rfl (B rfl) (heldAll (freeMove rfl (E rfl rfl))) ?_
   refine AWH.tk (i := 1) rfl rfl rfl (B rfl) (heldAll (freeField rfl fo_23_3 (E rfl rfl))) ?_
   refine AWH.tk (i := 2) rfl rfl rfl (B rfl) (heldLoad rfl ag_3 (E rfl rfl) rfl) ?_
   refine AWH.tk (i := 6) rfl rfl rfl (B rfl) (heldAll (freeField rfl fo_23_5 (E rfl rfl))) ?_
   refine AWH.tk (i := 7) rfl rfl rfl (B rfl) (heldLoad rfl ag_2 (E rfl rfl) rfl) ?_
   refine AWH.one (i := 3) (by kernel_rfl) rfl ?_
   refine AWL.y rfl rfl (B rfl) (Yv.bits rfl rfl (E rfl rfl) (E rfl rfl)) ?_
   refine tb 2 rfl ?_
   refine AWH.one (i := 4) (by kernel_rfl) rfl ?_
   refine AWL.buildSlice1 rfl rfl (B rfl) rfl el_43 rfl (evsC (E rfl rfl) evs0) (Nat.le_of_ble_eq_true rfl) rfl rfl ?_
   refine tb 2 rfl ?_
   refine AWH.one (i := 5) (by kernel_rfl) rfl ?_
   refine AWL.call rfl rfl (B rfl) rfl ce_28 (E rfl rfl) (evsC (E rfl rfl) (evsC (E rfl rfl) evs0)) (S1 := CB _ _ _ _) (S2 := [_]) rfl (put35 _ _ _ _ [_]) ?_
   rintro t57 S57 ⟨rfl, A57, c57, rfl⟩
   refine tb 2 rfl ?_
   refine AWH.one (i := 8) (by kernel_rfl) rfl ?_
   refine AWL.call rfl rfl (B rfl) rfl ce_30 (E rfl rfl) (evsC (E rfl rfl) (evsC (E rfl rfl) (evsC (E rfl rfl) evs0))) (S1 := CB _ _ _ _) (S2 := [_]) rfl (imm37 _ _ _ _ _ 1) ?_
   rintro t60 S60 ⟨rfl, A60, c60, rfl⟩
   refine tb 2 rfl ?_
   refine AWH.done (by kernel_rfl) ?_
   refine retN .nil ?_
   refine cbx_end ?_
   rw [jumpF, if_neg h0f, if_neg h1f, if_neg h2f, if_pos h3t]
   rw [← o1]
   simp only [List.append_assoc]
   rfl
  try replace h3f := of_decide_eq_false h3f
  refine AW.regionH (HeldBox b3 (insVals i)) rfl (tells_box (k := 2) rfl) ?_
  refine AWH.tk (i := 0) rfl rfl rfl (B rfl) (heldAll (freeMove rfl (E rfl rfl))) ?_
  refine AWH.tk (i := 1) rfl rfl rfl (B rfl) (heldAll (freeField rfl fo_23_3 (E rfl rfl))) ?_
  refine AWH.tk (i := 2) rfl rfl rfl (B rfl) (heldLoad rfl ag_3 (E rfl rfl) rfl) ?_
  refine AWH.tk (i := 6) rfl rfl rfl (B rfl) (heldAll (freeField rfl fo_23_5 (E rfl rfl))) ?_
  refine AWH.tk (i := 7) rfl rfl rfl (B rfl) (heldLoad rfl ag_2 (E rfl rfl) rfl) ?_
  refine AWH.one (i := 3) (by kernel_rfl) rfl ?_
  refine AWL.y rfl rfl (B rfl) (Yv.bits rfl rfl (E rfl rfl) (E rfl rfl)) ?_
  refine tb 2 rfl ?_
  refine AWH.one (i := 4) (by kernel_rfl) rfl ?_
  refine AWL.buildSlice1 rfl rfl (B rfl) rfl el_43 rfl (evsC (E rfl rfl) (evsC (E rfl rfl) evs0)) (Nat.le_of_ble_eq_true rfl) rfl rfl ?_
  refine tb 2 rfl ?_
  refine AWH.one (i := 5) (by kernel_rfl) rfl ?_
  refine AWL.call rfl rfl (B rfl) rfl ce_28 (E rfl rfl) (evsC (E rfl rfl) (evsC (E rfl rfl) evs0)) (S1 := CB _ _ _ _) (S2 := [_]) rfl (put35 _ _ _ _ [_, _]) ?_
  rintro t9 S9 ⟨rfl, A9, c9, rfl⟩
  refine tb 2 rfl ?_
  refine AWH.one (i := 8) (by kernel_rfl) rfl ?_
  refine AWL.call rfl rfl (B rfl) rfl ce_30 (E rfl rfl) (evsC (E rfl rfl) (evsC (E rfl rfl) (evsC (E rfl rfl) evs0))) (S1 := CB _ _ _ _) (S2 := [_]) rfl (imm37 _ _ _ _ _ 4) ?_
  rintro t12 S12 ⟨rfl, A12, c12, rfl⟩
  refine tb 2 rfl ?_
  refine AWH.done (by kernel_rfl) ?_
  refine retN .nil ?_
  refine cbx_end ?_
  rw [jumpF, if_neg h0f, if_neg h1f, if_neg h2f, if_neg h3f]
  rw [← o2]
  simp only [List.append_assoc]
  rfl

set_option maxHeartbeats 2000000 in
theorem far41 (b : Nat) (A : Option Addr) (c : List UInt8) (bs : List UInt8) (i : Ins) (hd : 0 ≤ i.d ∧ i.d ≤ 15) (hs : 0 ≤ i.s ∧ i.s ≤ 15) (hc : 0 ≤ i.cond ∧ i.cond ≤ 15) (hb : bs.length ≤ 800) (hk : i.kind = 21 ∨ i.kind = 32 ∨ i.kind = 33 ∨ i.kind = 34 ∨ 45 ≤ i.kind ∧ i.kind ≤ 52) :
    ACalls Tryd.prog 34 [.v (cp b), insT i] (CB b A c bs) (fun t_ S => ∃ A' c' e, S = CB b A' c' (bs ++ farF i) ++ [e]) := by
  obtain ⟨o1, o2, o3, o4⟩ := or_cond i.cond hc
  refine ACalls.intro Tryd.func34 rfl Tryd.ntmps34 (Nat.le_of_ble_eq_true rfl) rfl fun X w0 => ?_
  refine AW.rseq ?_
  refine AWL.boxOp rfl rfl (B rfl) rfl (E rfl rfl) rfl (fun b3 => ?_)
  refine AWL.nil ?_
  refine AW.rseq ?_
  refine AWL.y rfl rfl (B rfl) (Yv.fieldBox rfl fo_23_0 (E rfl rfl)) ?_
  refine AWL.y rfl rfl (B rfl) (Yv.loadBox rfl ag_3 (i := 2) rfl (E rfl rfl) rfl) ?_
  refine AWL.nil ?_
  refine AW.block ?_
  refine AW.rseq ?_
  refine AWL.y rfl rfl (B rfl) (Yv.eql rfl (E rfl rfl) (E rfl rfl)) ?_
  refine AWL.y rfl rfl (B rfl) (Yv.assign rfl (E rfl rfl)) ?_
  refine AWL.nil ?_
  refine AW.cond rfl (fun h0t => ?_) (fun h0f => ?_)
  ·
   try replace h0t := of_decide_eq_true h0t
   refine AW.regionH (HeldBox b3 (insVals i)) rfl (tells_box (k := 2) rfl) ?_
   refine AWH.tk (i := 0) rfl rfl rfl (B rfl) (heldAll (freeMove rfl (E rfl rfl))) ?_
   refine AWH.tk (i := 1) rfl rfl rfl (B rfl) (heldAll (freeField rfl fo_23_1 (E rfl rfl))) ?_
   refine AWH.tk (i := 2) rfl rfl rfl (B rfl) (heldLoad rfl ag_3 (E rfl rfl) rfl) ?_
   refine AWH.tk (i := 3) rfl rfl rfl (B rfl) (heldAll (freeField rfl fo_23_2 (E rfl rfl))) ?_
   refine AWH.tk (i := 4) rfl rfl rfl (B rfl) (heldLoad rfl ag_3 (E rfl rfl) rfl) ?_
   refine AWH.tk (i := 8) rfl rfl rfl (B rfl) (heldAll (freeField rfl fo_23_1 (E rfl rfl))) ?_
   refine AWH.tk (i := 9) rfl rfl rfl (B rfl) (heldLoad rfl ag_3 (E rfl rfl) rfl) ?_
   refine AWH.tk (i := 10) rfl rfl rfl (B rfl) (heldAll (freeField rfl fo_23_2 (E rfl rfl))) ?_
   refine AWH.tk (i := 11) rfl rfl rfl (B rfl) (heldLoad rfl ag_3 (E rfl rfl) rfl) ?_
   refine AWH.two (i := 5) (j := 6) (by kernel_rfl) rfl rfl ?_ ?_
   ·
    refine AWL.call rfl rfl (B rfl) rfl ce_27 (E rfl rfl) (evsC (E rfl rfl) (evsC (E rfl rfl) (evsC (E rfl rfl) (evsC (E rfl rfl) evs0)))) (S1 := CB _ _ _ _) (S2 := [_]) rfl (rex34 _ _ _ _ _ _ _) ?_
    rintro t13 S13 ⟨rfl, A13, c13, rfl⟩
    refine tb 2 rfl ?_
    refine AWH.one (i := 6) (by kernel_rfl) rfl ?_
    refine AWL.buildSlice1 rfl rfl (B rfl) rfl el_43 rfl (evsC (E rfl rfl) (evsC (E rfl rfl) evs0)) (Nat.le_of_ble_eq_true rfl) rfl rfl ?_
    refine tb 2 rfl ?_
    refine AWH.one (i := 7) (by kernel_rfl) rfl ?_
    refine AWL.call rfl rfl (B rfl) rfl ce_28 (E rfl rfl) (evsC (E rfl rfl) (evsC (E rfl rfl) evs0)) (S1 := CB _ _ _ _) (S2 := [_]) rfl (put35 _ _ _ _ [_, _]) ?_
    rintro t15 S15 ⟨rfl, A15, c15, rfl⟩
    refine tb 2 rfl ?_
    refine AWH.one (i := 12) (by kernel_rfl) rfl ?_
    refine AWL.call rfl rfl (B rfl) rfl ce_29 (E rfl rfl) (evsC (E rfl rfl) (evsC (E rfl rfl) (evsC (E rfl rfl) evs0))) (S1 := CB _ _ _ _) (S2 := [_]) rfl (two36 _ _ _ _ _ _) ?_
    rintro t20 S20 ⟨rfl, A20, c20, rfl⟩
    refine tb 2 rfl ?_
    refine AWH.done (by kernel_rfl) ?_
    refine retN .nil ?_
    refine cbx_end ?_
    rw [farF, if_pos h0t]
    skip
    simp only [List.append_assoc]
    rfl
   ·
    refine AWL.buildSlice1 rfl rfl (B rfl) rfl el_43 rfl (evsC (E rfl rfl) (evsC (E rfl rfl) evs0)) (Nat.le_of_ble_eq_true rfl) rfl rfl ?_
    refine tb 2 rfl ?_
    refine AWH.one (i := 5) (by kernel_rfl) rfl ?_
    refine AWL.call rfl rfl (B rfl) rfl ce_27 (E rfl rfl) (evsC (E rfl rfl) (evsC (E rfl rfl) (evsC (E rfl rfl) (evsC (E rfl rfl) evs0)))) (S1 := CB _ _ _ _) (S2 := [_]) rfl (rex34 _ _ _ _ _ _ _) ?_
    rintro t13 S13 ⟨rfl, A13, c13, rfl⟩
    refine tb 2 rfl ?_
    refine AWH.one (i := 7) (by kernel_rfl) rfl ?_
    refine AWL.call rfl rfl (B rfl) rfl ce_28 (E rfl rfl) (evsC (E rfl rfl) (evsC (E rfl rfl) evs0)) (S1 := CB _ _ _ _) (S2 := [_]) rfl (put35 _ _ _ _ [_, _]) ?_
    rintro t15 S15 ⟨rfl, A15, c15, rfl⟩
    refine tb 2 rfl ?_
    refine AWH.one (i := 12) (by kernel_rfl) rfl ?_
    refine AWL.call rfl rfl (B rfl) rfl ce_29 (E rfl rfl) (evsC (E rfl rfl) (evsC (E rfl rfl) (evsC (E rfl rfl) evs0))) (S1 := CB _ _ _ _) (S2 := [_]) rfl (two36 _ _ _ _ _ _) ?_
    rintro t20 S20 ⟨rfl, A20, c20, rfl⟩
    refine tb 2 rfl ?_
    refine AWH.done (by kernel_rfl) ?_
    refine retN .nil ?_
    refine cbx_end ?_
    rw [farF, if_pos h0t]
    skip
    simp only [List.append_assoc]
    rfl
  try replace h0f := of_decide_eq_false h0f
  refine AW.rseq ?_
  refine AWL.y rfl rfl (B rfl) (Yv.eql rfl (E rfl rfl) (E rfl rfl)) ?_
  refine AWL.y rfl rfl (B rfl) (Yv.assign rfl (E rfl rfl)) ?_
  refine AWL.nil ?_
  refine AW.cond rfl (fun h1t => ?_) (fun h1f => ?_)
  ·
   try replace h1t := of_decide_eq_true h1t
   refine AW.regionH (HeldBox b3 (insVals i)) rfl (tells_box (k := 2) rfl) ?_
   refine AWH.tk (i := 0) rfl rfl rfl (B rfl) (heldAll (freeMove rfl (E rfl rfl))) ?_
   refine AWH.tk (i := 1) rfl rfl rfl (B rfl) (heldAll (freeField rfl fo_23_1 (E rfl rfl))) ?_
   refine AWH.tk (i := 2) rfl rfl rfl (B rfl) (heldLoad rfl ag_3 (E rfl rfl) rfl) ?_
   refine AWH.tk (i := 4) rfl rfl rfl (B rfl) (heldAll (freeField rfl fo_23_3 (E rfl rfl))) ?_
   refine AWH.tk (i := 5) rfl rfl rfl (B rfl) (heldLoad rfl ag_3 (E rfl rfl) rfl) ?_
   refine AWH.tk (i := 9) rfl rfl rfl (B rfl) (heldAll (freeField rfl fo_23_1 (E rfl rfl))) ?_
   refine AWH.tk (i := 10) rfl rfl rfl (B rfl) (heldLoad rfl ag_3 (E rfl rfl) rfl) ?_
   refine AWH.two (i := 3) (j := 6) (by kernel_rfl) rfl rfl ?_ ?_
   ·
    refine AWL.call rfl rfl (B rfl) rfl ce_27 (E rfl rfl) (evsC (E rfl rfl) (evsC (E rfl rfl) (evsC (E rfl rfl) (evsC (E rfl rfl) evs0)))) (S1 := CB _ _ _ _) (S2 := [_]) rfl (rex34 _ _ _ _ _ _ _) ?_
    rintro t26 S26 ⟨rfl, A26, c26, rfl⟩
    refine tb 2 rfl ?_
    refine AWH.one (i := 6) (by kernel_rfl) rfl ?_
    refine AWL.y rfl rfl (B rfl) (Yv.bits rfl rfl (E rfl rfl) (E rfl rfl)) ?_
    refine tb 2 rfl ?_
    refine AWH.one (i := 7) (by kernel_rfl) rfl ?_
    refine AWL.buildSlice1 rfl rfl (B rfl) rfl el_43 rfl (evsC (E rfl rfl) (evsC (E rfl rfl) evs0)) (Nat.le_of_ble_eq_true rfl) rfl rfl ?_
    refine tb 2 rfl ?_
    refine AWH.one (i := 8) (by kernel_rfl) rfl ?_
    refine AWL.call rfl rfl (B rfl) rfl ce_28 (E rfl rfl) (evsC (E rfl rfl) (evsC (E rfl rfl) evs0)) (S1 := CB _ _ _ _) (S2 := [_]) rfl (put35 _ _ _ _ [_, _]) ?_
    rintro t31 S31 ⟨rfl, A31, c31, rfl⟩
    refine tb 2 rfl ?_
    refine AWH.one (i := 11) (by kernel_rfl) rfl ?_
    refine AWL.call rfl rfl (B rfl) rfl ce_29 (E rfl rfl) (evsC (E rfl rfl) (evsC (E rfl rfl) (evsC (E rfl rfl) evs0))) (S1 := CB _ _ _ _) (S2 := [_]) rfl (two36 _ _ _ _ _ _) ?_
    rintro t34 S34 ⟨rfl, A34, c34, rfl⟩
    refine tb 2 rfl ?_
    refine AWH.done (by kernel_rfl) ?_
    refine retN .nil ?_
    refine cbx_end ?_
    rw [farF, if_neg h0f, if_pos h1t]
    rw [← o3]
    simp only [List.append_assoc]
    rfl
   ·
    refine AWL.y rfl rfl (B rfl) (Yv.bits rfl rfl (E rfl rfl) (E rfl rfl)) ?_
    refine tb 2 rfl ?_
    refine AWH.two (i := 3) (j := 7) (by kernel_rfl) rfl rfl ?_ ?_
    ·
     refine AWL.call rfl rfl (B rfl) rfl ce_27 (E rfl rfl) (evsC (E rfl rfl) (evsC (E rfl rfl) (evsC (E rfl rfl) (evsC (E rfl rfl) evs0)))) (S1 := CB _ _ _ _) (S2 := [_]) rfl (rex34 _ _ _ _ _ _ _) ?_
     rintro t26 S26 ⟨rfl, A26, c26, rfl⟩
     refine tb 2 rfl ?_
     refine AWH.one (i := 7) (by kernel_rfl) rfl ?_
     refine AWL.buildSlice1 rfl rfl (B rfl) rfl el_43 rfl (evsC (E rfl rfl) (evsC (E rfl rfl) evs0)) (Nat.le_of_ble_eq_true rfl) rfl rfl ?_
     refine tb 2 rfl ?_
     refine AWH.one (i := 8) (by kernel_rfl) rfl ?_
     refine AWL.call rfl rfl (B rfl) rfl ce_28 (E rfl rfl) (evsC (E rfl rfl) (evsC (E rfl rfl) evs0)) (S1 := CB _ _ _ _) (S2 := [_]) rfl (put35 _ _ _ _ [_, _]) ?_
     rintro t31 S31 ⟨rfl, A31, c31, rfl⟩
     refine tb 2 rfl ?_
     refine AWH.one (i := 11) (by kernel_rfl) rfl ?_
     refine AWL.call rfl rfl (B rfl) rfl ce_29 (E rfl rfl) (evsC (E rfl rfl) (evsC (E rfl rfl) (evsC (E rfl rfl) evs0))) (S1 := CB _ _ _ _) (S2 := [_]) rfl (two36 _ _ _ _ _ _) ?_
     rintro t34 S34 ⟨rfl, A34, c34, rfl⟩
     refine tb 2 rfl ?_
     refine AWH.done (by kernel_rfl) ?_
     refine retN .nil ?_
     refine cbx_end ?_
     rw [farF, if_neg h0f, if_pos h1t]
     rw [← o3]
     simp only [List.append_assoc]
     rfl
    ·
     refine AWL.buildSlice1 rfl rfl (B rfl) rfl el_43 rfl (evsC (E rfl rfl) (evsC (E rfl rfl) evs0)) (Nat.le_of_ble_eq_true rfl) rfl rfl ?_
     refine tb 2 rfl ?_
     refine AWH.one (i := 3) (by kernel_rfl) rfl ?_
     refine AWL.call rfl rfl (B rfl) rfl ce_27 (E rfl rfl) (evsC (E rfl rfl) (evsC (E rfl rfl) (evsC (E rfl rfl) (evsC (E rfl rfl) evs0)))) (S1 := CB _ _ _ _) (S2 := [_]) rfl (rex34 _ _ _ _ _ _ _) ?_
     rintro t26 S26 ⟨rfl, A26, c26, rfl⟩
     refine tb 2 rfl ?_
     refine AWH.one (i := 8) (by kernel_rfl) rfl ?_
     refine AWL.call rfl rfl (B rfl) rfl ce_28 (E rfl rfl) (evsC (E rfl rfl) (evsC (E rfl rfl) evs0)) (S1 := CB _ _ _ _) (S2 := [_]) rfl (put35 _ _ _ _ [_, _]) ?_
     rintro t31 S31 ⟨rfl, A31, c31, rfl⟩
     refine tb 2 rfl ?_
     refine AWH.one (i := 11) (by kernel_rfl) rfl ?_
     refine AWL.call rfl rfl (B rfl) rfl ce_29 (E rfl rfl) (evsC (E rfl rfl) (evsC (E rfl rfl) (evsC (E rfl rfl) evs0))) (S1 := CB _ _ _ _) (S2 := [_]) rfl (two36 _ _ _ _ _ _) ?_
     rintro t34 S34 ⟨rfl, A34, c34, rfl⟩
     refine tb 2 rfl ?_
     refine AWH.done (by kernel_rfl) ?_
     refine retN .nil ?_
     refine cbx_end ?_
     rw [farF, if_neg h0f, if_pos h1t]
     rw [← o3]
     simp only [List.append_assoc]
     rfl
  try replace h1f := of_decide_eq_false h1f
  refine AW.rseq ?_
  refine AWL.y rfl rfl (B rfl) (Yv.eql rfl (E rfl rfl) (E rfl rfl)) ?_
  refine AWL.y rfl rfl (B rfl) (Yv.assign rfl (E rfl rfl)) ?_
  refine AWL.nil ?_
  refine AW.cond rfl (fun h2t => ?_) (fun h2f => ?_)
  ·
   try replace h2t := of_decide_eq_true h2t
   refine AW.regionH (HeldBox b3 (insVals i)) rfl (tells_box (k := 2) rfl) ?_
   refine AWH.tk (i := 0) rfl rfl rfl (B rfl) (heldAll (freeMove rfl (E rfl rfl))) ?_
   refine AWH.tk (i := 1) rfl rfl rfl (B rfl) (heldAll (freeField rfl fo_23_1 (E rfl rfl))) ?_
   refine AWH.tk (i := 2) rfl rfl rfl (B rfl) (heldLoad rfl ag_3 (E rfl rfl) rfl) ?_
   refine AWH.tk (i := 3) rfl rfl rfl (B rfl) (heldAll (freeField rfl fo_23_2 (E rfl rfl))) ?_
   refine AWH.tk (i := 4) rfl rfl rfl (B rfl) (heldLoad rfl ag_3 (E rfl rfl) rfl) ?_
   refine AWH.tk (i := 8) rfl rfl rfl (B rfl) (heldAll (freeField rfl fo_23_1 (E rfl rfl))) ?_
   refine AWH.tk (i := 9) rfl rfl rfl (B rfl) (heldLoad rfl ag_3 (E rfl rfl) rfl) ?_
   refine AWH.tk (i := 10) rfl rfl rfl (B rfl) (heldAll (freeField rfl fo_23_2 (E rfl rfl))) ?_
   refine AWH.tk (i := 11) rfl rfl rfl (B rfl) (heldLoad rfl ag_3 (E rfl rfl) rfl) ?_
   refine AWH.two (i := 5) (j := 6) (by kernel_rfl) rfl rfl ?_ ?_
   ·
    refine AWL.call rfl rfl (B rfl) rfl ce_27 (E rfl rfl) (evsC (E rfl rfl) (evsC (E rfl rfl) (evsC (E rfl rfl) (evsC (E rfl rfl) evs0)))) (S1 := CB _ _ _ _) (S2 := [_]) rfl (rex34 _ _ _ _ _ _ _) ?_
    rintro t42 S42 ⟨rfl, A42, c42, rfl⟩
    refine tb 2 rfl ?_
    refine AWH.one (i := 6) (by kernel_rfl) rfl ?_
    refine AWL.buildSlice1 rfl rfl (B rfl) rfl el_43 rfl (evsC (E rfl rfl) (evsC (E rfl rfl) evs0)) (Nat.le_of_ble_eq_true rfl) rfl rfl ?_
    refine tb 2 rfl ?_
    refine AWH.one (i := 7) (by kernel_rfl) rfl ?_
    refine AWL.call rfl rfl (B rfl) rfl ce_28 (E rfl rfl) (evsC (E rfl rfl) (evsC (E rfl rfl) evs0)) (S1 := CB _ _ _ _) (S2 := [_]) rfl (put35 _ _ _ _ [_, _]) ?_
    rintro t44 S44 ⟨rfl, A44, c44, rfl⟩
    refine tb 2 rfl ?_
    refine AWH.one (i := 12) (by kernel_rfl) rfl ?_
    refine AWL.call rfl rfl (B rfl) rfl ce_29 (E rfl rfl) (evsC (E rfl rfl) (evsC (E rfl rfl) (evsC (E rfl rfl) evs0))) (S1 := CB _ _ _ _) (S2 := [_]) rfl (two36 _ _ _ _ _ _) ?_
    rintro t49 S49 ⟨rfl, A49, c49, rfl⟩
    refine tb 2 rfl ?_
    refine AWH.done (by kernel_rfl) ?_
    refine retN .nil ?_
    refine cbx_end ?_
    rw [farF, if_neg h0f, if_neg h1f, if_pos h2t]
    skip
    simp only [List.append_assoc]
    rfl
   ·
    refine AWL.buildSlice1 rfl rfl (B rfl) rfl el_43 rfl (evsC (E rfl rfl) (evsC (E rfl rfl) evs0)) (Nat.le_of_ble_eq_true rfl) rfl rfl ?_
    refine tb 2 rfl ?_
    refine AWH.one (i := 5) (by kernel_rfl) rfl ?_
    refine AWL.call rfl rfl (B rfl) rfl ce_27 (E rfl rfl) (evsC (E rfl rfl) (evsC (E rfl rfl) (evsC (E rfl rfl) (evsC (E rfl rfl) evs0)))) (S1 := CB _ _ _ _) (S2 := [_]) rfl (rex34 _ _ _ _ _ _ _) ?_
    rintro t42 S42 ⟨rfl, A42, c42, rfl⟩
    refine tb 2 rfl ?_
    refine AWH.one (i := 7) (by kernel_rfl) rfl ?_
    refine AWL.call rfl rfl (B rfl) rfl ce_28 (E rfl rfl) (evsC (E rfl rfl) (evsC (E rfl rfl) evs0)) (S1 := CB _ _ _ _) (S2 := [_]) rfl (put35 _ _ _ _ [_, _]) ?_
    rintro t44 S44 ⟨rfl, A44, c44, rfl⟩
    refine tb 2 rfl ?_
    refine AWH.one (i := 12) (by kernel_rfl) rfl ?_
    refine AWL.call rfl rfl (B rfl) rfl ce_29 (E rfl rfl) (evsC (E rfl rfl) (evsC (E rfl rfl) (evsC (E rfl rfl) evs0))) (S1 := CB _ _ _ _) (S2 := [_]) rfl (two36 _ _ _ _ _ _) ?_
    rintro t49 S49 ⟨rfl, A49, c49, rfl⟩
    refine tb 2 rfl ?_
    refine AWH.done (by kernel_rfl) ?_
    refine retN .nil ?_
    refine cbx_end ?_
    rw [farF, if_neg h0f, if_neg h1f, if_pos h2t]
    skip
    simp only [List.append_assoc]
    rfl
  try replace h2f := of_decide_eq_false h2f
  refine AW.rseq ?_
  refine AWL.y rfl rfl (B rfl) (Yv.eql rfl (E rfl rfl) (E rfl rfl)) ?_
  refine AWL.y rfl rfl (B rfl) (Yv.assign rfl (E rfl rfl)) ?_
  refine AWL.nil ?_
  refine AW.cond rfl (fun h3t => ?_) (fun h3f => ?_)
  ·
   try replace h3t := of_decide_eq_true h3t
   refine AW.regionH (HeldBox b3 (insVals i)) rfl (tells_box (k := 2) rfl) ?_
   refine AWH.tk (i := 0) rfl rfl rfl (B rfl) (heldAll (freeMove rfl (E rfl rfl))) ?_
   refine AWH.tk (i := 1) rfl rfl rfl (B rfl) (heldAll (freeField rfl fo_23_1 (E rfl rfl))) ?_
   refine AWH.tk (i := 2) rfl rfl rfl (B rfl) (heldLoad rfl ag_3 (E rfl rfl) rfl) ?_
   refine AWH.tk (i := 3) rfl rfl rfl (B rfl) (heldAll (freeField rfl fo_23_2 (E rfl rfl))) ?_
   refine AWH.tk (i := 4) rfl rfl rfl (B rfl) (heldLoad rfl ag_3 (E rfl rfl) rfl) ?_
   refine AWH.tk (i := 6) rfl rfl rfl (B rfl) (heldAll (freeField rfl fo_23_3 (E rfl rfl))) ?_
   refine AWH.tk (i := 7) rfl rfl rfl (B rfl) (heldLoad rfl ag_3 (E rfl rfl) rfl) ?_
   refine AWH.tk (i := 11) rfl rfl rfl (B rfl) (heldAll (freeField rfl fo_23_1 (E rfl rfl))) ?_
   refine AWH.tk (i := 12) rfl rfl rfl (B rfl) (heldLoad rfl ag_3 (E rfl rfl) rfl) ?_
   refine AWH.tk (i := 13) rfl rfl rfl (B rfl) (heldAll (freeField rfl fo_23_2 (E rfl rfl))) ?_
   refine AWH.tk (i := 14) rfl rfl rfl (B rfl) (heldLoad rfl ag_3 (E rfl rfl) rfl) ?_
   refine AWH.two (i := 5) (j := 8) (by kernel_rfl) rfl rfl ?_ ?_
   ·
    refine AWL.call rfl rfl (B rfl) rfl ce_27 (E rfl rfl) (evsC (E rfl rfl) (evsC (E rfl rfl) (evsC (E rfl rfl) (evsC (E rfl rfl) evs0)))) (S1 := CB _ _ _ _) (S2 := [_]) rfl (rex34 _ _ _ _ _ _ _) ?_
    rintro t57 S57 ⟨rfl, A57, c57, rfl⟩
    refine tb 2 rfl ?_
    refine AWH.one (i := 8) (by kernel_rfl) rfl ?_
    refine AWL.y rfl rfl (B rfl) (Yv.bits rfl rfl (E rfl rfl) (E rfl rfl)) ?_
    refine tb 2 rfl ?_
    refine AWH.one (i := 9) (by kernel_rfl) rfl ?_
    refine AWL.buildSlice1 rfl rfl (B rfl) rfl el_43 rfl (evsC (E rfl rfl) (evsC (E rfl rfl) evs0)) (Nat.le_of_ble_eq_true rfl) rfl rfl ?_
    refine tb 2 rfl ?_
    refine AWH.one (i := 10) (by kernel_rfl) rfl ?_
    refine AWL.call rfl rfl (B rfl) rfl ce_28 (E rfl rfl) (evsC (E rfl rfl) (evsC (E rfl rfl) evs0)) (S1 := CB _ _ _ _) (S2 := [_]) rfl (put35 _ _ _ _ [_, _]) ?_
    rintro t62 S62 ⟨rfl, A62, c62, rfl⟩
    refine tb 2 rfl ?_
    refine AWH.one (i := 15) (by kernel_rfl) rfl ?_
    refine AWL.call rfl rfl (B rfl) rfl ce_29 (E rfl rfl) (evsC (E rfl rfl) (evsC (E rfl rfl) (evsC (E rfl rfl) evs0))) (S1 := CB _ _ _ _) (S2 := [_]) rfl (two36 _ _ _ _ _ _) ?_
    rintro t67 S67 ⟨rfl, A67, c67, rfl⟩
    refine tb 2 rfl ?_
    refine AWH.done (by kernel_rfl) ?_
    refine retN .nil ?_
    refine cbx_end ?_
    rw [farF, if_neg h0f, if_neg h1f, if_neg h2f, if_pos h3t]
    rw [← o4]
    simp only [List.append_assoc]
    rfl
   ·
    refine AWL.y rfl rfl (B rfl) (Yv.bits rfl rfl (E rfl rfl) (E rfl rfl)) ?_
    refine tb 2 rfl ?_
    refine AWH.two (i := 5) (j := 9) (by kernel_rfl) rfl rfl ?_ ?_
    ·
     refine AWL.call rfl rfl (B rfl) rfl ce_27 (E rfl rfl) (evsC (E rfl rfl) (evsC (E rfl rfl) (evsC (E rfl rfl) (evsC (E rfl rfl) evs0)))) (S1 := CB _ _ _ _) (S2 := [_]) rfl (rex34 _ _ _ _ _ _ _) ?_
     rintro t57 S57 ⟨rfl, A57, c57, rfl⟩
     refine tb 2 rfl ?_
     refine AWH.one (i := 9) (by kernel_rfl) rfl ?_
     refine AWL.buildSlice1 rfl rfl (B rfl) rfl el_43 rfl (evsC (E rfl rfl) (evsC (E rfl rfl) evs0)) (Nat.le_of_ble_eq_true rfl) rfl rfl ?_
     refine tb 2 rfl ?_
     refine AWH.one (i := 10) (by kernel_rfl) rfl ?_
     refine AWL.call rfl rfl (B rfl) rfl ce_28 (E rfl rfl) (evsC (E rfl rfl) (evsC (E rfl rfl) evs0)) (S1 := CB _ _ _ _) (S2 := [_]) rfl (put35 _ _ _ _ [_, _]) ?_
     rintro t62 S62 ⟨rfl, A62, c62, rfl⟩
     refine tb 2 rfl ?_
     refine AWH.one (i := 15) (by kernel_rfl) rfl ?_
     refine AWL.call rfl rfl (B rfl) rfl ce_29 (E rfl rfl) (evsC (E rfl rfl) (evsC (E rfl rfl) (evsC (E rfl rfl) evs0))) (S1 := CB _ _ _ _) (S2 := [_]) rfl (two36 _ _ _ _ _ _) ?_
     rintro t67 S67 ⟨rfl, A67, c67, rfl⟩
     refine tb 2 rfl ?_
     refine AWH.done (by kernel_rfl) ?_
     refine retN .nil ?_
     refine cbx_end ?_
     rw [farF, if_neg h0f, if_neg h1f, if_neg h2f, if_pos h3t]
     rw [← o4]
     simp only [List.append_assoc]
     rfl
    ·
     refine AWL.buildSlice1 rfl rfl (B rfl) rfl el_43 rfl (evsC (E rfl rfl) (evsC (E rfl rfl) evs0)) (Nat.le_of_ble_eq_true rfl) rfl rfl ?_
     refine tb 2 rfl ?_
     refine AWH.one (i := 5) (by kernel_rfl) rfl ?_
     refine AWL.call rfl rfl (B rfl) rfl ce_27 (E rfl rfl) (evsC (E rfl rfl) (evsC (E rfl rfl) (evsC (E rfl rfl) (evsC (E rfl rfl) evs0)))) (S1 := CB _ _ _ _) (S2 := [_]) rfl (rex34 _ _ _ _ _ _ _) ?_
     rintro t57 S57 ⟨rfl, A57, c57, rfl⟩
     refine tb 2 rfl ?_
     refine AWH.one (i := 10) (by kernel_rfl) rfl ?_
     refine AWL.call rfl rfl (B rfl) rfl ce_28 (E rfl rfl) (evsC (E rfl rfl) (evsC (E rfl rfl) evs0)) (S1 := CB _ _ _ _) (S2 := [_]) rfl (put35 _ _ _ _ [_, _]) ?_
     rintro t62 S62 ⟨rfl, A62, c62, rfl⟩
     refine tb 2 rfl ?_
     refine AWH.one (i := 15) (by kernel_rfl) rfl ?_
     refine AWL.call rfl rfl (B rfl) rfl ce_29 (E rfl rfl) (evsC (E rfl rfl) (evsC (E rfl rfl) (evsC (E rfl rfl) evs0))) (S1 := CB _ _ _ _) (S2 := [_]) rfl (two36 _ _ _ _ _ _) ?_
     rintro t67 S67 ⟨rfl, A67, c67, rfl⟩
     refine tb 2 rfl ?_
     refine AWH.done (by kernel_rfl) ?_
     refine retN .nil ?_
     refine cbx_end ?_
     rw [farF, if_neg h0f, if_neg h1f, if_neg h2f, if_pos h3t]
     rw [← o4]
     simp only [List.append_assoc]
     rfl
  try replace h3f := of_decide_eq_false h3f
  refine AW.rseq ?_
  refine AWL.y rfl rfl (B rfl) (Yv.eql rfl (E rfl rfl) (E rfl rfl)) ?_
  refine AWL.y rfl rfl (B rfl) (Yv.assign rfl (E rfl rfl)) ?_
  refine AWL.nil ?_
  refine AW.cond rfl (fun h4t => ?_) (fun h4f => ?_)
  ·
   try replace h4t := of_decide_eq_true h4t
   refine AW.regionH (HeldBox b3 (insVals i)) rfl (tells_box (k := 2) rfl) ?_
   refine AWH.tk (i := 0) rfl rfl rfl (B rfl) (heldAll (freeMove rfl (E rfl rfl))) ?_
   refine AWH.tk (i := 3) rfl rfl rfl (B rfl) (heldAll (freeField rfl fo_23_1 (E rfl rfl))) ?_
   refine AWH.tk (i := 4) rfl rfl rfl (B rfl) (heldLoad rfl ag_3 (E rfl rfl) rfl) ?_
   refine AWH.tk (i := 5) rfl rfl rfl (B rfl) (heldAll (freeField rfl fo_23_2 (E rfl rfl))) ?_
   refine AWH.tk (i := 6) rfl rfl rfl (B rfl) (heldLoad rfl ag_3 (E rfl rfl) rfl) ?_
   refine AWH.tk (i := 10) rfl rfl rfl (B rfl) (heldAll (freeField rfl fo_23_1 (E rfl rfl))) ?_
   refine AWH.tk (i := 11) rfl rfl rfl (B rfl) (heldLoad rfl ag_3 (E rfl rfl) rfl) ?_
   refine AWH.tk (i := 12) rfl rfl rfl (B rfl) (heldAll (freeField rfl fo_23_2 (E rfl rfl))) ?_
   refine AWH.tk (i := 13) rfl rfl rfl (B rfl) (heldLoad rfl ag_3 (E rfl rfl) rfl) ?_
   refine AWH.two (i := 1) (j := 8) (by kernel_rfl) rfl rfl ?_ ?_
   ·
    refine AWL.buildSlice1 rfl rfl (B rfl) rfl el_43 rfl (evsC (E rfl rfl) evs0) (Nat.le_of_ble_eq_true rfl) rfl rfl ?_
    refine tb 2 rfl ?_
    refine AWH.two (i := 2) (j := 8) (by kernel_rfl) rfl rfl ?_ ?_
    ·
     refine AWL.call rfl rfl (B rfl) rfl ce_28 (E rfl rfl) (evsC (E rfl rfl) (evsC (E rfl rfl) evs0)) (S1 := CB _ _ _ _) (S2 := [_]) rfl (put35 _ _ _ _ [_]) ?_
     rintro t72 S72 ⟨rfl, A72, c72, rfl⟩
     refine tb 2 rfl ?_
     refine AWH.two (i := 7) (j := 8) (by kernel_rfl) rfl rfl ?_ ?_
     ·
      refine AWL.call rfl rfl (B rfl) rfl ce_27 (E rfl rfl) (evsC (E rfl rfl) (evsC (E rfl rfl) (evsC (E rfl rfl) (evsC (E rfl rfl) evs0)))) (S1 := CB _ _ _ _) (S2 := [_]) rfl (rex34 _ _ _ _ _ _ _) ?_
      rintro t77 S77 ⟨rfl, A77, c77, rfl⟩
      refine tb 2 rfl ?_
      refine AWH.one (i := 8) (by kernel_rfl) rfl ?_
      refine AWL.buildSlice1 rfl rfl (B rfl) rfl el_43 rfl (evsC (E rfl rfl) (evsC (E rfl rfl) evs0)) (Nat.le_of_ble_eq_true rfl) rfl rfl ?_
      refine tb 2 rfl ?_
      refine AWH.one (i := 9) (by kernel_rfl) rfl ?_
      refine AWL.call rfl rfl (B rfl) rfl ce_28 (E rfl rfl) (evsC (E rfl rfl) (evsC (E rfl rfl) evs0)) (S1 := CB _ _ _ _) (S2 := [_]) rfl (put35 _ _ _ _ [_, _]) ?_
      rintro t79 S79 ⟨rfl, A79, c79, rfl⟩
      refine tb 2 rfl ?_
      refine AWH.one (i := 14) (by kernel_rfl) rfl ?_
      refine AWL.call rfl rfl (B rfl) rfl ce_29 (E rfl rfl) (evsC (E rfl rfl) (evsC (E rfl rfl) (evsC (E rfl rfl) evs0))) (S1 := CB _ _ _ _) (S2 := [_]) rfl (two36 _ _ _ _ _ _) ?_
      rintro t84 S84 ⟨rfl, A84, c84, rfl⟩
      refine tb 2 rfl ?_
      refine AWH.done (by kernel_rfl) ?_
      refine retN .nil ?_
      refine cbx_end ?_
      rw [farF, if_neg h0f, if_neg h1f, if_neg h2f, if_neg h3f, if_pos h4t]
      skip
      simp only [List.append_assoc]
      rfl
     ·
      refine AWL.buildSlice1 rfl rfl (B rfl) rfl el_43 rfl (evsC (E rfl rfl) (evsC (E rfl rfl) evs0)) (Nat.le_of_ble_eq_true rfl) rfl rfl ?_
      refine tb 2 rfl ?_
      refine AWH.one (i := 7) (by kernel_rfl) rfl ?_
      refine AWL.call rfl rfl (B rfl) rfl ce_27 (E rfl rfl) (evsC (E rfl rfl) (evsC (E rfl rfl) (evsC (E rfl rfl) (evsC (E rfl rfl) evs0)))) (S1 := CB _ _ _ _) (S2 := [_]) rfl (rex34 _ _ _ _ _ _ _) ?_
      rintro t77 S77 ⟨rfl, A77, c77, rfl⟩
      refine tb 2 rfl ?_
      refine AWH.one (i := 9) (by kernel_rfl) rfl ?_
      refine AWL.call rfl rfl (B rfl) rfl ce_28 (E rfl rfl) (evsC (E rfl rfl) (evsC (E rfl rfl) evs0)) (S1 := CB _ _ _ _) (S2 := [_]) rfl (put35 _ _ _ _ [_, _]) ?_
      rintro t79 S79 ⟨rfl, A79, c79, rfl⟩
      refine tb 2 rfl ?_
      refine AWH.one (i := 14) (by kernel_rfl) rfl ?_
      refine AWL.call rfl rfl (B rfl) rfl ce_29 (E rfl rfl) (evsC (E rfl rfl) (evsC (E rfl rfl) (evsC (E rfl rfl) evs0))) (S1 := CB _ _ _ _) (S2 := [_]) rfl (two36 _ _ _ _ _ _) ?_
      rintro t84 S84 ⟨rfl, A84, c84, rfl⟩
      refine tb 2 rfl ?_
      refine AWH.done (by kernel_rfl) ?_
      refine retN .nil ?_
      refine cbx_end ?_
      rw [farF, if_neg h0f, if_neg h1f, if_neg h2f, if_neg h3f, if_pos h4t]
      skip
      simp only [List.append_assoc]
      rfl
    ·
     refine AWL.buildSlice1 rfl rfl (B rfl) rfl el_43 rfl (evsC (E rfl rfl) (evsC (E rfl rfl) evs0)) (Nat.le_of_ble_eq_true rfl) rfl rfl ?_
     refine tb 2 rfl ?_
     refine AWH.one (i := 2) (by kernel_rfl) rfl ?_
     refine AWL.call rfl rfl (B rfl) rfl ce_28 (E rfl rfl) (evsC (E rfl rfl) (evsC (E rfl rfl) evs0)) (S1 := CB _ _ _ _) (S2 := [_]) rfl (put35 _ _ _ _ [_]) ?_
     rintro t72 S72 ⟨rfl, A72, c72, rfl⟩
     refine tb 2 rfl ?_
     refine AWH.one (i := 7) (by kernel_rfl) rfl ?_
     refine AWL.call rfl rfl (B rfl) rfl ce_27 (E rfl rfl) (evsC (E rfl rfl) (evsC (E rfl rfl) (evsC (E rfl rfl) (evsC (E rfl rfl) evs0)))) (S1 := CB _ _ _ _) (S2 := [_]) rfl (rex34 _ _ _ _ _ _ _) ?_
     rintro t77 S77 ⟨rfl, A77, c77, rfl⟩
     refine tb 2 rfl ?_
     refine AWH.one (i := 9) (by kernel_rfl) rfl ?_
     refine AWL.call rfl rfl (B rfl) rfl ce_28 (E rfl rfl) (evsC (E rfl rfl) (evsC (E rfl rfl) evs0)) (S1 := CB _ _ _ _) (S2 := [_]) rfl (put35 _ _ _ _ [_, _]) ?_
     rintro t79 S79 ⟨rfl, A79, c79, rfl⟩
     refine tb 2 rfl ?_
     refine AWH.one (i := 14) (by kernel_rfl) rfl ?_
     refine AWL.call rfl rfl (B rfl) rfl ce_29 (E rfl rfl) (evsC (E rfl rfl) (evsC (E rfl rfl) (evsC (E rfl rfl) evs0))) (S1 := CB _ _ _ _) (S2 := [_]) rfl (two36 _ _ _ _ _ _) ?_
     rintro t84 S84 ⟨rfl, A84, c84, rfl⟩
     refine tb 2 rfl ?_
     refine AWH.done (by kernel_rfl) ?_
     refine retN .nil ?_
     refine cbx_end ?_
     rw [farF, if_neg h0f, if_neg h1f, if_neg h2f, if_neg h3f, if_pos h4t]
     skip
     simp only [List.append_assoc]
     rfl
   ·
    refine AWL.buildSlice1 rfl rfl (B rfl) rfl el_43 rfl (evsC (E rfl rfl) (evsC (E rfl rfl) evs0)) (Nat.le_of_ble_eq_true rfl) rfl rfl ?_
    refine tb 2 rfl ?_
    refine AWH.one (i := 1) (by kernel_rfl) rfl ?_
    refine AWL.buildSlice1 rfl rfl (B rfl) rfl el_43 rfl (evsC (E rfl rfl) evs0) (Nat.le_of_ble_eq_true rfl) rfl rfl ?_
    refine tb 2 rfl ?_
    refine AWH.one (i := 2) (by kernel_rfl) rfl ?_
    refine AWL.call rfl rfl (B rfl) rfl ce_28 (E rfl rfl) (evsC (E rfl rfl) (evsC (E rfl rfl) evs0)) (S1 := CB _ _ _ _) (S2 := [_]) rfl (put35 _ _ _ _ [_]) ?_
    rintro t72 S72 ⟨rfl, A72, c72, rfl⟩
    refine tb 2 rfl ?_
    refine AWH.one (i := 7) (by kernel_rfl) rfl ?_
    refine AWL.call rfl rfl (B rfl) rfl ce_27 (E rfl rfl) (evsC (E rfl rfl) (evsC (E rfl rfl) (evsC (E rfl rfl) (evsC (E rfl rfl) evs0)))) (S1 := CB _ _ _ _) (S2 := [_]) rfl (rex34 _ _ _ _ _ _ _) ?_
    rintro t77 S77 ⟨rfl, A77, c77, rfl⟩
    refine tb 2 rfl ?_
    refine AWH.one (i := 9) (by kernel_rfl) rfl ?_
    refine AWL.call rfl rfl (B rfl) rfl ce_28 (E rfl rfl) (evsC (E rfl rfl) (evsC (E rfl rfl) evs0)) (S1 := CB _ _ _ _) (S2 := [_]) rfl (put35 _ _ _ _ [_, _]) ?_
    rintro t79 S79 ⟨rfl, A79, c79, rfl⟩
    refine tb 2 rfl ?_
    refine AWH.one (i := 14) (by kernel_rfl) rfl ?_
    refine AWL.call rfl rfl (B rfl) rfl ce_29 (E rfl rfl) (evsC (E rfl rfl) (evsC (E rfl rfl) (evsC (E rfl rfl) evs0))) (S1 := CB _ _ _ _) (S2 := [_]) rfl (two36 _ _ _ _ _ _) ?_
    rintro t84 S84 ⟨rfl, A84, c84, rfl⟩
    refine tb 2 rfl ?_
    refine AWH.done (by kernel_rfl) ?_
    refine retN .nil ?_
    refine cbx_end ?_
    rw [farF, if_neg h0f, if_neg h1f, if_neg h2f, if_neg h3f, if_pos h4t]
    skip
    simp only [List.append_assoc]
    rfl
  try replace h4f := of_decide_eq_false h4f
  refine AW.rseq ?_
  refine AWL.y rfl rfl (B rfl) (Yv.eql rfl (E rfl rfl) (E rfl rfl)) ?_
  refine AWL.y rfl rfl (B rfl) (Yv.assign rfl (E rfl rfl)) ?_
  refine AWL.nil ?_
  refine AW.cond rfl (fun h5t => ?_) (fun h5f => ?_)
  ·
   try replace h5t := of_decide_eq_true h5t
   refine AW.regionH (HeldBox b3 (insVals i)) rfl (tells_box (k := 2) rfl) ?_
   refine AWH.tk (i := 0) rfl rfl rfl (B rfl) (heldAll (freeMove rfl (E rfl rfl))) ?_
   refine AWH.tk (i := 3) rfl rfl rfl (B rfl) (heldAll (freeField rfl fo_23_2 (E rfl rfl))) ?_
   refine AWH.tk (i := 4) rfl rfl rfl (B rfl) (heldLoad rfl ag_3 (E rfl rfl) rfl) ?_
   refine AWH.tk (i := 5) rfl rfl rfl (B rfl) (heldAll (freeField rfl fo_23_1 (E rfl rfl))) ?_
   refine AWH.tk (i := 6) rfl rfl rfl (B rfl) (heldLoad rfl ag_3 (E rfl rfl) rfl) ?_
   refine AWH.tk (i := 10) rfl rfl rfl (B rfl) (heldAll (freeField rfl fo_23_2 (E rfl rfl))) ?_
   refine AWH.tk (i := 11) rfl rfl rfl (B rfl) (heldLoad rfl ag_3 (E rfl rfl) rfl) ?_
   refine AWH.tk (i := 12) rfl rfl rfl (B rfl) (heldAll (freeField rfl fo_23_1 (E rfl rfl))) ?_
   refine AWH.tk (i := 13) rfl rfl rfl (B rfl) (heldLoad rfl ag_3 (E rfl rfl) rfl) ?_
   refine AWH.two (i := 1) (j := 8) (by kernel_rfl) rfl rfl ?_ ?_
   ·
    refine AWL.buildSlice1 rfl rfl (B rfl) rfl el_43 rfl (evsC (E rfl rfl) evs0) (Nat.le_of_ble_eq_true rfl) rfl rfl ?_
    refine tb 2 rfl ?_
    refine AWH.two (i := 2) (j := 8) (by kernel_rfl) rfl rfl ?_ ?_
    ·
     refine AWL.call rfl rfl (B rfl) rfl ce_28 (E rfl rfl) (evsC (E rfl rfl) (evsC (E rfl rfl) evs0)) (S1 := CB _ _ _ _) (S2 := [_]) rfl (put35 _ _ _ _ [_]) ?_
     rintro t89 S89 ⟨rfl, A89, c89, rfl⟩
     refine tb 2 rfl ?_
     refine AWH.two (i := 7) (j := 8) (by kernel_rfl) rfl rfl ?_ ?_
     ·
      refine AWL.call rfl rfl (B rfl) rfl ce_27 (E rfl rfl) (evsC (E rfl rfl) (evsC (E rfl rfl) (evsC (E rfl rfl) (evsC (E rfl rfl) evs0)))) (S1 := CB _ _ _ _) (S2 := [_]) rfl (rex34 _ _ _ _ _ _ _) ?_
      rintro t94 S94 ⟨rfl, A94, c94, rfl⟩
      refine tb 2 rfl ?_
      refine AWH.one (i := 8) (by kernel_rfl) rfl ?_
      refine AWL.buildSlice1 rfl rfl (B rfl) rfl el_43 rfl (evsC (E rfl rfl) (evsC (E rfl rfl) evs0)) (Nat.le_of_ble_eq_true rfl) rfl rfl ?_
      refine tb 2 rfl ?_
      refine AWH.one (i := 9) (by kernel_rfl) rfl ?_
      refine AWL.call rfl rfl (B rfl) rfl ce_28 (E rfl rfl) (evsC (E rfl rfl) (evsC (E rfl rfl) evs0)) (S1 := CB _ _ _ _) (S2 := [_]) rfl (put35 _ _ _ _ [_, _]) ?_
      rintro t96 S96 ⟨rfl, A96, c96, rfl⟩
      refine tb 2 rfl ?_
      refine AWH.one (i := 14) (by kernel_rfl) rfl ?_
      refine AWL.call rfl rfl (B rfl) rfl ce_29 (E rfl rfl) (evsC (E rfl rfl) (evsC (E rfl rfl) (evsC (E rfl rfl) evs0))) (S1 := CB _ _ _ _) (S2 := [_]) rfl (two36 _ _ _ _ _ _) ?_
      rintro t101 S101 ⟨rfl, A101, c101, rfl⟩
      refine tb 2 rfl ?_
      refine AWH.done (by kernel_rfl) ?_
      refine retN .nil ?_
      refine cbx_end ?_
      rw [farF, if_neg h0f, if_neg h1f, if_neg h2f, if_neg h3f, if_neg h4f, if_pos h5t]
      skip
      simp only [List.append_assoc]
      rfl
     ·
      refine AWL.buildSlice1 rfl rfl (B rfl) rfl el_43 rfl (evsC (E rfl rfl) (evsC (E rfl rfl) evs0)) (Nat.le_of_ble_eq_true rfl) rfl rfl ?_
      refine tb 2 rfl ?_
      refine AWH.one (i := 7) (by kernel_rfl) rfl ?_
      refine AWL.call rfl rfl (B rfl) rfl ce_27 (E rfl rfl) (evsC (E rfl rfl) (evsC (E rfl rfl) (evsC (E rfl rfl) (evsC (E rfl rfl) evs0)))) (S1 := CB _ _ _ _) (S2 := [_]) rfl (rex34 _ _ _ _ _ _ _) ?_
      rintro t94 S94 ⟨rfl, A94, c94, rfl⟩
      refine tb 2 rfl ?_
      refine AWH.one (i := 9) (by kernel_rfl) rfl ?_
      refine AWL.call rfl rfl (B rfl) rfl ce_28 (E rfl rfl) (evsC (E rfl rfl) (evsC (E rfl rfl) evs0)) (S1 := CB _ _ _ _) (S2 := [_]) rfl (put35 _ _ _ _ [_, _]) ?_
      rintro t96 S96 ⟨rfl, A96, c96, rfl⟩
      refine tb 2 rfl ?_
      refine AWH.one (i := 14) (by kernel_rfl) rfl ?_
      refine AWL.call rfl rfl (B rfl) rfl ce_29 (E rfl rfl) (evsC (E rfl rfl) (evsC (E rfl rfl) (evsC (E rfl rfl) evs0))) (S1 := CB _ _ _ _) (S2 := [_]) rfl (two36 _ _ _ _ _ _) ?_
      rintro t101 S101 ⟨rfl, A101, c101, rfl⟩
      refine tb 2 rfl ?_
      refine AWH.done (by kernel_rfl) ?_
      refine retN .nil ?_
      refine cbx_end ?_
      rw [farF, if_neg h0f, if_neg h1f, if_neg h2f, if_neg h3f, if_neg h4f, if_pos h5t]
      skip
      simp only [List.append_assoc]
      rfl
    ·
     refine AWL.buildSlice1 rfl rfl (B rfl) rfl el_43 rfl (evsC (E rfl rfl) (evsC (E rfl rfl) evs0)) (Nat.le_of_ble_eq_true rfl) rfl rfl ?_
     refine tb 2 rfl ?_
     refine AWH.one (i := 2) (by kernel_rfl) rfl ?_
     refine AWL.call rfl rfl (B rfl) rfl ce_28 (E rfl rfl) (evsC (E rfl rfl) (evsC (E rfl rfl) evs0)) (S1 := CB _ _ _ _) (S2 := [_]) rfl (put35 _ _ _ _ [_]) ?_
     rintro t89 S89 ⟨rfl, A89, c89, rfl⟩
     refine tb 2 rfl ?_
     refine AWH.one (i := 7) (by kernel_rfl) rfl ?_
     refine AWL.call rfl rfl (B rfl) rfl ce_27 (E rfl rfl) (evsC (E rfl rfl) (evsC (E rfl rfl) (evsC (E rfl rfl) (evsC (E rfl rfl) evs0)))) (S1 := CB _ _ _ _) (S2 := [_]) rfl (rex34 _ _ _ _ _ _ _) ?_
     rintro t94 S94 ⟨rfl, A94, c94, rfl⟩
     refine tb 2 rfl ?_
     refine AWH.one (i := 9) (by kernel_rfl) rfl ?_
     refine AWL.call rfl rfl (B rfl) rfl ce_28 (E rfl rfl) (evsC (E rfl rfl) (evsC (E rfl rfl) evs0)) (S1 := CB _ _ _ _) (S2 := [_]) rfl (put35 _ _ _ _ [_, _]) ?_
     rintro t96 S96 ⟨rfl, A96, c96, rfl⟩
     refine tb 2 rfl ?_
     refine AWH.one (i := 14) (by kernel_rfl) rfl ?_
     refine AWL.call rfl rfl (B rfl) rfl ce_29 (E rfl rfl) (evsC (E rfl rfl) (evsC (E rfl rfl) (evsC (E rfl rfl) evs0))) (S1 := CB _ _ _ _) (S2 := [_]) rfl (two36 _ _ _ _ _ _) ?_
     rintro t101 S101 ⟨rfl, A101, c101, rfl⟩
     refine tb 2 rfl ?_
     refine AWH.done (by kernel_rfl) ?_
     refine retN .nil ?_
     refine cbx_end ?_
     rw [farF, if_neg h0f, if_neg h1f, if_neg h2f, if_neg h3f, if_neg h4f, if_pos h5t]
     skip
     simp only [List.append_assoc]
     rfl
   ·
    refine AWL.buildSlice1 rfl rfl (B rfl) rfl el_43 rfl (evsC (E rfl rfl) (evsC (E rfl rfl) evs0)) (Nat.le_of_ble_eq_true rfl) rfl rfl ?_
    refine tb 2 rfl ?_
    refine AWH.one (i := 1) (by kernel_rfl) rfl ?_
    refine AWL.buildSlice1 rfl rfl (B rfl) rfl el_43 rfl (evsC (E rfl rfl) evs0) (Nat.le_of_ble_eq_true rfl) rfl rfl ?_
    refine tb 2 rfl ?_
    refine AWH.one (i := 2) (by kernel_rfl) rfl ?_
    refine AWL.call rfl rfl (B rfl) rfl ce_28 (E rfl rfl) (evsC (E rfl rfl) (evsC (E rfl rfl) evs0)) (S1 := CB _ _ _ _) (S2 := [_]) rfl (put35 _ _ _ _ [_]) ?_
    rintro t89 S89 ⟨rfl, A89, c89, rfl⟩
    refine tb 2 rfl ?_
    refine AWH.one (i := 7) (by kernel_rfl) rfl ?_
    refine AWL.call rfl rfl (B rfl) rfl ce_27 (E rfl rfl) (evsC (E rfl rfl) (evsC (E rfl rfl) (evsC (E rfl rfl) (evsC (E rfl rfl) evs0)))) (S1 := CB _ _ _ _) (S2 := [_]) rfl (rex34 _ _ _ _ _ _ _) ?_
    rintro t94 S94 ⟨rfl, A94, c94, rfl⟩
    refine tb 2 rfl ?_
    refine AWH.one (i := 9) (by kernel_rfl) rfl ?_
    refine AWL.call rfl rfl (B rfl) rfl ce_28 (E rfl rfl) (evsC (E rfl rfl) (evsC (E rfl rfl) evs0)) (S1 := CB _ _ _ _) (S2 := [_]) rfl (put35 _ _ _ _ [_, _]) ?_
    rintro t96 S96 ⟨rfl, A96, c96, rfl⟩
    refine tb 2 rfl ?_
    refine AWH.one (i := 14) (by kernel_rfl) rfl ?_
    refine AWL.call rfl rfl (B rfl) rfl ce_29 (E rfl rfl) (evsC (E rfl rfl) (evsC (E rfl rfl) (evsC (E rfl rfl) evs0))) (S1 := CB _ _ _ _) (S2 := [_]) rfl (two36 _ _ _ _ _ _) ?_
    rintro t101 S101 ⟨rfl, A101, c101, rfl⟩
    refine tb 2 rfl ?_
    refine AWH.done (by kernel_rfl) ?_
    refine retN .nil ?_
    refine cbx_end ?_
    rw [farF, if_neg h0f, if_neg h1f, if_neg h2f, if_neg h3f, if_neg h4f, if_pos h5t]
    skip
    simp only [List.append_assoc]
    rfl
  try replace h5f := of_decide_eq_false h5f
  refine AW.rseq ?_
  refine AWL.y rfl rfl (B rfl) (Yv.eql rfl (E rfl rfl) (E rfl rfl)) ?_
  refine AWL.y rfl rfl (B rfl) (Yv.assign rfl (E rfl rfl)) ?_
  refine AWL.nil ?_
  refine AW.cond rfl (fun h6t => ?_) (fun h6f => ?_)
  ·
   try replace h6t := of_decide_eq_true h6t
   refine AW.regionH (HeldBox b3 (insVals i)) rfl (tells_box (k := 2) rfl) ?_
   refine AWH.tk (i := 0) rfl rfl rfl (B rfl) (heldAll (freeMove rfl (E rfl rfl))) ?_
   refine AWH.tk (i := 3) rfl rfl rfl (B rfl) (heldAll (freeField rfl fo_23_1 (E rfl rfl))) ?_
   refine AWH.tk (i := 4) rfl rfl rfl (B rfl) (heldLoad rfl ag_3 (E rfl rfl) rfl) ?_
   refine AWH.tk (i := 5) rfl rfl rfl (B rfl) (heldAll (freeField rfl fo_23_2 (E rfl rfl))) ?_
   refine AWH.tk (i := 6) rfl rfl rfl (B rfl) (heldLoad rfl ag_3 (E rfl rfl) rfl) ?_
   refine AWH.tk (i := 10) rfl rfl rfl (B rfl) (heldAll (freeField rfl fo_23_1 (E rfl rfl))) ?_
   refine AWH.tk (i := 11) rfl rfl rfl (B rfl) (heldLoad rfl ag_3 (E rfl rfl) rfl) ?_
   refine AWH.tk (i := 12) rfl rfl rfl (B rfl) (heldAll (freeField rfl fo_23_2 (E rfl rfl))) ?_
   refine AWH.tk (i := 13) rfl rfl rfl (B rfl) (heldLoad rfl ag_3 (E rfl rfl) rfl) ?_
   refine AWH.two (i := 1) (j := 8) (by kernel_rfl) rfl rfl ?_ ?_
   ·
    refine AWL.buildSlice1 rfl rfl (B rfl) rfl el_43 rfl (evsC (E rfl rfl) evs0) (Nat.le_of_ble_eq_true rfl) rfl rfl ?_
    refine tb 2 rfl ?_
    refine AWH.two (i := 2) (j := 8) (by kernel_rfl) rfl rfl ?_ ?_
    ·
     refine AWL.call rfl rfl (B rfl) rfl ce_28 (E rfl rfl) (evsC (E rfl rfl) (evsC (E rfl rfl) evs0)) (S1 := CB _ _ _ _) (S2 := [_]) rfl (put35 _ _ _ _ [_]) ?_
     rintro t106 S106 ⟨rfl, A106, c106, rfl⟩
     refine tb 2 rfl ?_
     refine AWH.two (i := 7) (j := 8) (by kernel_rfl) rfl rfl ?_ ?_
     ·
      refine AWL.call rfl rfl (B rfl) rfl ce_27 (E rfl rfl) (evsC (E rfl rfl) (evsC (E rfl rfl) (evsC (E rfl rfl) (evsC (E rfl rfl) evs0)))) (S1 := CB _ _ _ _) (S2 := [_]) rfl (rex34 _ _ _ _ _ _ _) ?_
      rintro t111 S111 ⟨rfl, A111, c111, rfl⟩
      refine tb 2 rfl ?_
      refine AWH.one (i := 8) (by kernel_rfl) rfl ?_
      refine AWL.buildSlice1 rfl rfl (B rfl) rfl el_43 rfl (evsC (E rfl rfl) (evsC (E rfl rfl) evs0)) (Nat.le_of_ble_eq_true rfl) rfl rfl ?_
      refine tb 2 rfl ?_
      refine AWH.one (i := 9) (by kernel_rfl) rfl ?_
      refine AWL.call rfl rfl (B rfl) rfl ce_28 (E rfl rfl) (evsC (E rfl rfl) (evsC (E rfl rfl) evs0)) (S1 := CB _ _ _ _) (S2 := [_]) rfl (put35 _ _ _ _ [_, _]) ?_
      rintro t113 S113 ⟨rfl, A113, c113, rfl⟩
      refine tb 2 rfl ?_
      refine AWH.one (i := 14) (by kernel_rfl) rfl ?_
      refine AWL.call rfl rfl (B rfl) rfl ce_29 (E rfl rfl) (evsC (E rfl rfl) (evsC (E rfl rfl) (evsC (E rfl rfl) evs0))) (S1 := CB _ _ _ _) (S2 := [_]) rfl (two36 _ _ _ _ _ _) ?_
      rintro t118 S118 ⟨rfl, A118, c118, rfl⟩
      refine tb 2 rfl ?_
      refine AWH.done (by kernel_rfl) ?_
      refine retN .nil ?_
      refine cbx_end ?_
      rw [farF, if_neg h0f, if_neg h1f, if_neg h2f, if_neg h3f, if_neg h4f, if_neg h5f, if_pos h6t]
      skip
      simp only [List.append_assoc]
      rfl
     ·
      refine AWL.buildSlice1 rfl rfl (B rfl) rfl el_43 rfl (evsC (E rfl rfl) (evsC (E rfl rfl) evs0)) (Nat.le_of_ble_eq_true rfl) rfl rfl ?_
      refine tb 2 rfl ?_
      refine AWH.one (i := 7) (by kernel_rfl) rfl ?_
      refine AWL.call rfl rfl (B rfl) rfl ce_27 (E rfl rfl) (evsC (E rfl rfl) (evsC (E rfl rfl) (evsC (E rfl rfl) (evsC (E rfl rfl) evs0)))) (S1 := CB _ _ _ _) (S2 := [_]) rfl (rex34 _ _ _ _ _ _ _) ?_
      rintro t111 S111 ⟨rfl, A111, c111, rfl⟩
      refine tb 2 rfl ?_
      refine AWH.one (i := 9) (by kernel_rfl) rfl ?_
      refine AWL.call rfl rfl (B rfl) rfl ce_28 (E rfl rfl) (evsC (E rfl rfl) (evsC (E rfl rfl) evs0)) (S1 := CB _ _ _ _) (S2 := [_]) rfl (put35 _ _ _ _ [_, _]) ?_
      rintro t113 S113 ⟨rfl, A113, c113, rfl⟩
      refine tb 2 rfl ?_
      refine AWH.one (i := 14) (by kernel_rfl) rfl ?_
      refine AWL.call rfl rfl (B rfl) rfl ce_29 (E rfl rfl) (evsC (E rfl rfl) (evsC (E rfl rfl) (evsC (E rfl rfl) evs0))) (S1 := CB _ _ _ _) (S2 := [_]) rfl (two36 _ _ _ _ _ _) ?_
      rintro t118 S118 ⟨rfl, A118, c118, rfl⟩
      refine tb 2 rfl ?_
      refine AWH.done (by kernel_rfl) ?_
      refine retN .nil ?_
      refine cbx_end ?_
      rw [farF, if_neg h0f, if_neg h1f, if_neg h2f, if_neg h3f, if_neg h4f, if_neg h5f, if_pos h6t]
      skip
      simp only [List.append_assoc]
      rfl
    ·
     refine AWL.buildSlice1 rfl rfl (B rfl) rfl el_43 rfl (evsC (E rfl rfl) (evsC (E rfl rfl) evs0)) (Nat.le_of_ble_eq_true rfl) rfl rfl ?_
     refine tb 2 rfl ?_
     refine AWH.one (i := 2) (by kernel_rfl) rfl ?_
     refine AWL.call rfl rfl (B rfl) rfl ce_28 (E rfl rfl) (evsC (E rfl rfl) (evsC (E rfl rfl) evs0)) (S1 := CB _ _ _ _) (S2 := [_]) rfl (put35 _ _ _ _ [_]) ?_
     rintro t106 S106 ⟨rfl, A106, c106, rfl⟩
     refine tb 2 rfl ?_
     refine AWH.one (i := 7) (by kernel_rfl) rfl ?_
     refine AWL.call rfl rfl (B rfl) rfl ce_27 (E rfl rfl) (evsC (E rfl rfl) (evsC (E rfl rfl) (evsC (E rfl rfl) (evsC (E rfl rfl) evs0)))) (S1 := CB _ _ _ _) (S2 := [_]) rfl (rex34 _ _ _ _ _ _ _) ?_
     rintro t111 S111 ⟨rfl, A111, c111, rfl⟩
     refine tb 2 rfl ?_
     refine AWH.one (i := 9) (by kernel_rfl) rfl ?_
     refine AWL.call rfl rfl (B rfl) rfl ce_28 (E rfl rfl) (evsC (E rfl rfl) (evsC (E rfl rfl) evs0)) (S1 := CB _ _ _ _) (S2 := [_]) rfl (put35 _ _ _ _ [_, _]) ?_
     rintro t113 S113 ⟨rfl, A113, c113, rfl⟩
     refine tb 2 rfl ?_
     refine AWH.one (i := 14) (by kernel_rfl) rfl ?_
     refine AWL.call rfl rfl (B rfl) rfl ce_29 (E rfl rfl) (evsC (E rfl rfl) (evsC (E rfl rfl) (evsC (E rfl rfl) evs0))) (S1 := CB _ _ _ _) (S2 := [_]) rfl (two36 _ _ _ _ _ _) ?_
     rintro t118 S118 ⟨rfl, A118, c118, rfl⟩
     refine tb 2 rfl ?_
     refine AWH.done (by kernel_rfl) ?_
     refine retN .nil ?_
     refine cbx_end ?_
     rw [farF, if_neg h0f, if_neg h1f, if_neg h2f, if_neg h3f, if_neg h4f, if_neg h5f, if_pos h6t]
     skip
     simp only [List.append_assoc]
     rfl
   ·
    refine AWL.buildSlice1 rfl rfl (B rfl) rfl el_43 rfl (evsC (E rfl rfl) (evsC (E rfl rfl) evs0)) (Nat.le_of_ble_eq_true rfl) rfl rfl ?_
    refine tb 2 rfl ?_
    refine AWH.one (i := 1) (by kernel_rfl) rfl ?_
    refine AWL.buildSlice1 rfl rfl (B rfl) rfl el_43 rfl (evsC (E rfl rfl) evs0) (Nat.le_of_ble_eq_true rfl) rfl rfl ?_
    refine tb 2 rfl ?_
    refine AWH.one (i := 2) (by kernel_rfl) rfl ?_
    refine AWL.call rfl rfl (B rfl) rfl ce_28 (E rfl rfl) (evsC (E rfl rfl) (evsC (E rfl rfl) evs0)) (S1 := CB _ _ _ _) (S2 := [_]) rfl (put35 _ _ _ _ [_]) ?_
    rintro t106 S106 ⟨rfl, A106, c106, rfl⟩
    refine tb 2 rfl ?_
    refine AWH.one (i := 7) (by kernel_rfl) rfl ?_
    refine AWL.call rfl rfl (B rfl) rfl ce_27 (E rfl rfl) (evsC (E rfl rfl) (evsC (E rfl rfl) (evsC (E rfl rfl) (evsC (E rfl rfl) evs0)))) (S1 := CB _ _ _ _) (S2 := [_]) rfl (rex34 _ _ _ _ _ _ _) ?_
    rintro t111 S111 ⟨rfl, A111, c111, rfl⟩
    refine tb 2 rfl ?_
    refine AWH.one (i := 9) (by kernel_rfl) rfl ?_
    refine AWL.call rfl rfl (B rfl) rfl ce_28 (E rfl rfl) (evsC (E rfl rfl) (evsC (E rfl rfl) evs0)) (S1 := CB _ _ _ _) (S2 := [_]) rfl (put35 _ _ _ _ [_, _]) ?_
    rintro t113 S113 ⟨rfl, A113, c113, rfl⟩
    refine tb 2 rfl ?_
    refine AWH.one (i := 14) (by kernel_rfl) rfl ?_
    refine AWL.call rfl rfl (B rfl) rfl ce_29 (E rfl rfl) (evsC (E rfl rfl) (evsC (E rfl rfl) (evsC (E rfl rfl) evs0))) (S1 := CB _ _ _ _) (S2 := [_]) rfl (two36 _ _ _ _ _ _) ?_
    rintro t118 S118 ⟨rfl, A118, c118, rfl⟩
    refine tb 2 rfl ?_
    refine AWH.done (by kernel_rfl) ?_
    refine retN .nil ?_
    refine cbx_end ?_
    rw [farF, if_neg h0f, if_neg h1f, if_neg h2f, if_neg h3f, if_neg h4f, if_neg h5f, if_pos h6t]
    skip
    simp only [List.append_assoc]
    rfl
  try replace h6f := of_decide_eq_false h6f
  refine AW.rseq ?_
  refine AWL.y rfl rfl (B rfl) (Yv.eql rfl (E rfl rfl) (E rfl rfl)) ?_
  refine AWL.y rfl rfl (B rfl) (Yv.assign rfl (E rfl rfl)) ?_
  refine AWL.nil ?_
  refine AW.cond rfl (fun h7t => ?_) (fun h7f => ?_)
  ·
   try replace h7t := of_decide_eq_true h7t
   refine AW.regionH (HeldBox b3 (insVals i)) rfl (tells_box (k := 2) rfl) ?_
   refine AWH.tk (i := 0) rfl rfl rfl (B rfl) (heldAll (freeMove rfl (E rfl rfl))) ?_
   refine AWH.tk (i := 3) rfl rfl rfl (B rfl) (heldAll (freeField rfl fo_23_1 (E rfl rfl))) ?_
   refine AWH.tk (i := 4) rfl rfl rfl (B rfl) (heldLoad rfl ag_3 (E rfl rfl) rfl) ?_
   refine AWH.tk (i := 5) rfl rfl rfl (B rfl) (heldAll (freeField rfl fo_23_2 (E rfl rfl))) ?_
   refine AWH.tk (i := 6) rfl rfl rfl (B rfl) (heldLoad rfl ag_3 (E rfl rfl) rfl) ?_
   refine AWH.tk (i := 10) rfl rfl rfl (B rfl) (heldAll (freeField rfl fo_23_1 (E rfl rfl))) ?_
   refine AWH.tk (i := 11) rfl rfl rfl (B rfl) (heldLoad rfl ag_3 (E rfl rfl) rfl) ?_
   refine AWH.tk (i := 12) rfl rfl rfl (B rfl) (heldAll (freeField rfl fo_23_2 (E rfl rfl))) ?_
   refine AWH.tk (i := 13) rfl rfl rfl (B rfl) (heldLoad rfl ag_3 (E rfl rfl) rfl) ?_
   refine AWH.two (i := 1) (j := 8) (by kernel_rfl) rfl rfl ?_ ?_
   ·
    refine AWL.buildSlice1 rfl rfl (B rfl) rfl el_43 rfl (evsC (E rfl rfl) evs0) (Nat.le_of_ble_eq_true rfl) rfl rfl ?_
    refine tb 2 rfl ?_
    refine AWH.two (i := 2) (j := 8) (by kernel_rfl) rfl rfl ?_ ?_
    ·
     refine AWL.call rfl rfl (B rfl) rfl ce_28 (E rfl rfl) (evsC (E rfl rfl) (evsC (E rfl rfl) evs0)) (S1 := CB _ _ _ _) (S2 := [_]) rfl (put35 _ _ _ _ [_]) ?_
     rintro t123 S123 ⟨rfl, A123, c123, rfl⟩
     refine tb 2 rfl ?_
     refine AWH.two (i := 7) (j := 8) (by kernel_rfl) rfl rfl ?_ ?_
     ·
      refine AWL.call rfl rfl (B rfl) rfl ce_27 (E rfl rfl) (evsC (E rfl rfl) (evsC (E rfl rfl) (evsC (E rfl rfl) (evsC (E rfl rfl) evs0)))) (S1 := CB _ _ _ _) (S2 := [_]) rfl (rex34 _ _ _ _ _ _ _) ?_
      rintro t128 S128 ⟨rfl, A128, c128, rfl⟩
      refine tb 2 rfl ?_
      refine AWH.one (i := 8) (by kernel_rfl) rfl ?_
      refine AWL.buildSlice1 rfl rfl (B rfl) rfl el_43 rfl (evsC (E rfl rfl) (evsC (E rfl rfl) evs0)) (Nat.le_of_ble_eq_true rfl) rfl rfl ?_
      refine tb 2 rfl ?_
      refine AWH.one (i := 9) (by kernel_rfl) rfl ?_
      refine AWL.call rfl rfl (B rfl) rfl ce_28 (E rfl rfl) (evsC (E rfl rfl) (evsC (E rfl rfl) evs0)) (S1 := CB _ _ _ _) (S2 := [_]) rfl (put35 _ _ _ _ [_, _]) ?_
      rintro t130 S130 ⟨rfl, A130, c130, rfl⟩
      refine tb 2 rfl ?_
      refine AWH.one (i := 14) (by kernel_rfl) rfl ?_
      refine AWL.call rfl rfl (B rfl) rfl ce_29 (E rfl rfl) (evsC (E rfl rfl) (evsC (E rfl rfl) (evsC (E rfl rfl) evs0))) (S1 := CB _ _ _ _) (S2 := [_]) rfl (two36 _ _ _ _ _ _) ?_
      rintro t135 S135 ⟨rfl, A135, c135, rfl⟩
      refine tb 2 rfl ?_
      refine AWH.done (by kernel_rfl) ?_
      refine retN .nil ?_
      refine cbx_end ?_
      rw [farF, if_neg h0f, if_neg h1f, if_neg h2f, if_neg h3f, if_neg h4f, if_neg h5f, if_neg h6f, if_pos h7t]
      skip
      simp only [List.append_assoc]
      rfl
     ·
      refine AWL.buildSlice1 rfl rfl (B rfl) rfl el_43 rfl (evsC (E rfl rfl) (evsC (E rfl rfl) evs0)) (Nat.le_of_ble_eq_true rfl) rfl rfl ?_
      refine tb 2 rfl ?_
      refine AWH.one (i := 7) (by kernel_rfl) rfl ?_
      refine AWL.call rfl rfl (B rfl) rfl ce_27 (E rfl rfl) (evsC (E rfl rfl) (evsC (E rfl rfl) (evsC (E rfl rfl) (evsC (E rfl rfl) evs0)))) (S1 := CB _ _ _ _) (S2 := [_]) rfl (rex34 _ _ _ _ _ _ _) ?_
      rintro t128 S128 ⟨rfl, A128, c128, rfl⟩
      refine tb 2 rfl ?_
      refine AWH.one (i := 9) (by kernel_rfl) rfl ?_
      refine AWL.call rfl rfl (B rfl) rfl ce_28 (E rfl rfl) (evsC (E rfl rfl) (evsC (E rfl rfl) evs0)) (S1 := CB _ _ _ _) (S2 := [_]) rfl (put35 _ _ _ _ [_, _]) ?_
      rintro t130 S130 ⟨rfl, A130, c130, rfl⟩
      refine tb 2 rfl ?_
      refine AWH.one (i := 14) (by kernel_rfl) rfl ?_
      refine AWL.call rfl rfl (B rfl) rfl ce_29 (E rfl rfl) (evsC (E rfl rfl) (evsC (E rfl rfl) (evsC (E rfl rfl) evs0))) (S1 := CB _ _ _ _) (S2 := [_]) rfl (two36 _ _ _ _ _ _) ?_
      rintro t135 S135 ⟨rfl, A135, c135, rfl⟩
      refine tb 2 rfl ?_
      refine AWH.done (by kernel_rfl) ?_
      refine retN .nil ?_
      refine cbx_end ?_
      rw [farF, if_neg h0f, if_neg h1f, if_neg h2f, if_neg h3f, if_neg h4f, if_neg h5f, if_neg h6f, if_pos h7t]
      skip
      simp only [List.append_assoc]
      rfl
    ·
     refine AWL.buildSlice1 rfl rfl (B rfl) rfl el_43 rfl (evsC (E rfl rfl) (evsC (E rfl rfl) evs0)) (Nat.le_of_ble_eq_true rfl) rfl rfl ?_
     refine tb 2 rfl ?_
     refine AWH.one (i := 2) (by kernel_rfl) rfl ?_
     refine AWL.call rfl rfl (B rfl) rfl ce_28 (E rfl rfl) (evsC (E rfl rfl) (evsC (E rfl rfl) evs0)) (S1 := CB _ _ _ _) (S2 := [_]) rfl (put35 _ _ _ _ [_]) ?_
     rintro t123 S123 ⟨rfl, A123, c123, rfl⟩
     refine tb 2 rfl ?_
     refine AWH.one (i := 7) (by kernel_rfl) rfl ?_
     refine AWL.call rfl rfl (B rfl) rfl ce_27 (E rfl rfl) (evsC (E rfl rfl) (evsC (E rfl rfl) (evsC (E rfl rfl) (evsC (E rfl rfl) evs0)))) (S1 := CB _ _ _ _) (S2 := [_]) rfl (rex34 _ _ _ _ _ _ _) ?_
     rintro t128 S128 ⟨rfl, A128, c128, rfl⟩
     refine tb 2 rfl ?_
     refine AWH.one (i := 9) (by kernel_rfl) rfl ?_
     refine AWL.call rfl rfl (B rfl) rfl ce_28 (E rfl rfl) (evsC (E rfl rfl) (evsC (E rfl rfl) evs0)) (S1 := CB _ _ _ _) (S2 := [_]) rfl (put35 _ _ _ _ [_, _]) ?_
     rintro t130 S130 ⟨rfl, A130, c130, rfl⟩
     refine tb 2 rfl ?_
     refine AWH.one (i := 14) (by kernel_rfl) rfl ?_
     refine AWL.call rfl rfl (B rfl) rfl ce_29 (E rfl rfl) (evsC (E rfl rfl) (evsC (E rfl rfl) (evsC (E rfl rfl) evs0))) (S1 := CB _ _ _ _) (S2 := [_]) rfl (two36 _ _ _ _ _ _) ?_
     rintro t135 S135 ⟨rfl, A135, c135, rfl⟩
     refine tb 2 rfl ?_
     refine AWH.done (by kernel_rfl) ?_
     refine retN .nil ?_
     refine cbx_end ?_
     rw [farF, if_neg h0f, if_neg h1f, if_neg h2f, if_neg h3f, if_neg h4f, if_neg h5f, if_neg h6f, if_pos h7t]
     skip
     simp only [List.append_assoc]
     rfl
   ·
    refine AWL.buildSlice1 rfl rfl (B rfl) rfl el_43 rfl (evsC (E rfl rfl) (evsC (E rfl rfl) evs0)) (Nat.le_of_ble_eq_true rfl) rfl rfl ?_
    refine tb 2 rfl ?_
    refine AWH.one (i := 1) (by kernel_rfl) rfl ?_
    refine AWL.buildSlice1 rfl rfl (B rfl) rfl el_43 rfl (evsC (E rfl rfl) evs0) (Nat.le_of_ble_eq_true rfl) rfl rfl ?_
    refine tb 2 rfl ?_
    refine AWH.one (i := 2) (by kernel_rfl) rfl ?_
    refine AWL.call rfl rfl (B rfl) rfl ce_28 (E rfl rfl) (evsC (E rfl rfl) (evsC (E rfl rfl) evs0)) (S1 := CB _ _ _ _) (S2 := [_]) rfl (put35 _ _ _ _ [_]) ?_
    rintro t123 S123 ⟨rfl, A123, c123, rfl⟩
    refine tb 2 rfl ?_
    refine AWH.one (i := 7) (by kernel_rfl) rfl ?_
    refine AWL.call rfl rfl (B rfl) rfl ce_27 (E rfl rfl) (evsC (E rfl rfl) (evsC (E rfl rfl) (evsC (E rfl rfl) (evsC (E rfl rfl) evs0)))) (S1 := CB _ _ _ _) (S2 := [_]) rfl (rex34 _ _ _ _ _ _ _) ?_
    rintro t128 S128 ⟨rfl, A128, c128, rfl⟩
    refine tb 2 rfl ?_
    refine AWH.one (i := 9) (by kernel_rfl) rfl ?_
    refine AWL.call rfl rfl (B rfl) rfl ce_28 (E rfl rfl) (evsC (E rfl rfl) (evsC (E rfl rfl) evs0)) (S1 := CB _ _ _ _) (S2 := [_]) rfl (put35 _ _ _ _ [_, _]) ?_
    rintro t130 S130 ⟨rfl, A130, c130, rfl⟩
    refine tb 2 rfl ?_
    refine AWH.one (i := 14) (by kernel_rfl) rfl ?_
    refine AWL.call rfl rfl (B rfl) rfl ce_29 (E rfl rfl) (evsC (E rfl rfl) (evsC (E rfl rfl) (evsC (E rfl rfl) evs0))) (S1 := CB _ _ _ _) (S2 := [_]) rfl (two36 _ _ _ _ _ _) ?_
    rintro t135 S135 ⟨rfl, A135, c135, rfl⟩
    refine tb 2 rfl ?_
    refine AWH.done (by kernel_rfl) ?_
    refine retN .nil ?_
    refine cbx_end ?_
    rw [farF, if_neg h0f, if_neg h1f, if_neg h2f, if_neg h3f, if_neg h4f, if_neg h5f, if_neg h6f, if_pos h7t]
    skip
    simp only [List.append_assoc]
    rfl
  try replace h7f := of_decide_eq_false h7f
  refine AW.rseq ?_
  refine AWL.y rfl rfl (B rfl) (Yv.eql rfl (E rfl rfl) (E rfl rfl)) ?_
  refine AWL.y rfl rfl (B rfl) (Yv.assign rfl (E rfl rfl)) ?_
  refine AWL.nil ?_
  refine AW.cond rfl (fun h8t => ?_) (fun h8f => ?_)
  ·
   try replace h8t := of_decide_eq_true h8t
   refine AW.regionH (HeldBox b3 (insVals i)) rfl (tells_box (k := 2) rfl) ?_
   refine AWH.tk (i := 0) rfl rfl rfl (B rfl) (heldAll (freeMove rfl (E rfl rfl))) ?_
   refine AWH.tk (i := 3) rfl rfl rfl (B rfl) (heldAll (freeField rfl fo_23_1 (E rfl rfl))) ?_
   refine AWH.tk (i := 4) rfl rfl rfl (B rfl) (heldLoad rfl ag_3 (E rfl rfl) rfl) ?_
   refine AWH.tk (i := 5) rfl rfl rfl (B rfl) (heldAll (freeField rfl fo_23_2 (E rfl rfl))) ?_
   refine AWH.tk (i := 6) rfl rfl rfl (B rfl) (heldLoad rfl ag_3 (E rfl rfl) rfl) ?_
   refine AWH.tk (i := 10) rfl rfl rfl (B rfl) (heldAll (freeField rfl fo_23_1 (E rfl rfl))) ?_
   refine AWH.tk (i := 11) rfl rfl rfl (B rfl) (heldLoad rfl ag_3 (E rfl rfl) rfl) ?_
   refine AWH.tk (i := 12) rfl rfl rfl (B rfl) (heldAll (freeField rfl fo_23_2 (E rfl rfl))) ?_
   refine AWH.tk (i := 13) rfl rfl rfl (B rfl) (heldLoad rfl ag_3 (E rfl rfl) rfl) ?_
   refine AWH.two (i := 1) (j := 8) (by kernel_rfl) rfl rfl ?_ ?_
   ·
    refine AWL.buildSlice1 rfl rfl (B rfl) rfl el_43 rfl (evsC (E rfl rfl) evs0) (Nat.le_of_ble_eq_true rfl) rfl rfl ?_
    refine tb 2 rfl ?_
    refine AWH.two (i := 2) (j := 8) (by kernel_rfl) rfl rfl ?_ ?_
    ·
     refine AWL.call rfl rfl (B rfl) rfl ce_28 (E rfl rfl) (evsC (E rfl rfl) (evsC (E rfl rfl) evs0)) (S1 := CB _ _ _ _) (S2 := [_]) rfl (put35 _ _ _ _ [_]) ?_
     rintro t140 S140 ⟨rfl, A140, c140, rfl⟩
     refine tb 2 rfl ?_
     refine AWH.two (i := 7) (j := 8) (by kernel_rfl) rfl rfl ?_ ?_
     ·
      refine AWL.call rfl rfl (B rfl) rfl ce_27 (E rfl rfl) (evsC (E rfl rfl) (evsC (E rfl rfl) (evsC (E rfl rfl) (evsC (E rfl rfl) evs0)))) (S1 := CB _ _ _ _) (S2 := [_]) rfl (rex34 _ _ _ _ _ _ _) ?_
      rintro t145 S145 ⟨rfl, A145, c145, rfl⟩
      refine tb 2 rfl ?_
      refine AWH.one (i := 8) (by kernel_rfl) rfl ?_
      refine AWL.buildSlice1 rfl rfl (B rfl) rfl el_43 rfl (evsC (E rfl rfl) (evsC (E rfl rfl) evs0)) (Nat.le_of_ble_eq_true rfl) rfl rfl ?_
      refine tb 2 rfl ?_
      refine AWH.one (i := 9) (by kernel_rfl) rfl ?_
      refine AWL.call rfl rfl (B rfl) rfl ce_28 (E rfl rfl) (evsC (E rfl rfl) (evsC (E rfl rfl) evs0)) (S1 := CB _ _ _ _) (S2 := [_]) rfl (put35 _ _ _ _ [_, _]) ?_
      rintro t147 S147 ⟨rfl, A147, c147, rfl⟩
      refine tb 2 rfl ?_
      refine AWH.one (i := 14) (by kernel_rfl) rfl ?_
      refine AWL.call rfl rfl (B rfl) rfl ce_29 (E rfl rfl) (evsC (E rfl rfl) (evsC (E rfl rfl) (evsC (E rfl rfl) evs0))) (S1 := CB _ _ _ _) (S2 := [_]) rfl (two36 _ _ _ _ _ _) ?_
      rintro t152 S152 ⟨rfl, A152, c152, rfl⟩
      refine tb 2 rfl ?_
      refine AWH.done (by kernel_rfl) ?_
      refine retN .nil ?_
      refine cbx_end ?_
      rw [farF, if_neg h0f, if_neg h1f, if_neg h2f, if_neg h3f, if_neg h4f, if_neg h5f, if_neg h6f, if_neg h7f, if_pos h8t]
      skip
      simp only [List.append_assoc]
      rfl
     ·
      refine AWL.buildSlice1 rfl rfl (B rfl) rfl el_43 rfl (evsC (E rfl rfl) (evsC (E rfl rfl) evs0)) (Nat.le_of_ble_eq_true rfl) rfl rfl ?_
      refine tb 2 rfl ?_
      refine AWH.one (i := 7) (by kernel_rfl) rfl ?_
      refine AWL.call rfl rfl (B rfl) rfl ce_27 (E rfl rfl) (evsC (E rfl rfl) (evsC (E rfl rfl) (evsC (E rfl rfl) (evsC (E rfl rfl) evs0)))) (S1 := CB _ _ _ _) (S2 := [_]) rfl (rex34 _ _ _ _ _ _ _) ?_
      rintro t145 S145 ⟨rfl, A145, c145, rfl⟩
      refine tb 2 rfl ?_
      refine AWH.one (i := 9) (by kernel_rfl) rfl ?_
      refine AWL.call rfl rfl (B rfl) rfl ce_28 (E rfl rfl) (evsC (E rfl rfl) (evsC (E rfl rfl) evs0)) (S1 := CB _ _ _ _) (S2 := [_]) rfl (put35 _ _ _ _ [_, _]) ?_
      rintro t147 S147 ⟨rfl, A147, c147, rfl⟩
      refine tb 2 rfl ?_
      refine AWH.one (i := 14) (by kernel_rfl) rfl ?_
      refine AWL.call rfl rfl (B rfl) rfl ce_29 (E rfl rfl) (evsC (E rfl rfl) (evsC (E rfl rfl) (evsC (E rfl rfl) evs0))) (S1 := CB _ _ _ _) (S2 := [_]) rfl (two36 _ _ _ _ _ _) ?_
      rintro t152 S152 ⟨rfl, A152, c152, rfl⟩
      refine tb 2 rfl ?_
      refine AWH.done (by kernel_rfl) ?_
      refine retN .nil ?_
      refine cbx_end ?_
      rw [farF, if_neg h0f, if_neg h1f, if_neg h2f, if_neg h3f, if_neg h4f, if_neg h5f, if_neg h6f, if_neg h7f, if_pos h8t]
      skip
      simp only [List.append_assoc]
      rfl
    ·
     refine AWL.buildSlice1 rfl rfl (B rfl) rfl el_43 rfl (evsC (E rfl rfl) (evsC (E rfl rfl) evs0)) (Nat.le_of_ble_eq_true rfl) rfl rfl ?_
     refine tb 2 rfl ?_
     refine AWH.one (i := 2) (by kernel_rfl) rfl ?_
     refine AWL.call rfl rfl (B rfl) rfl ce_28 (E rfl rfl) (evsC (E rfl rfl) (evsC (E rfl rfl) evs0)) (S1 := CB _ _ _ _) (S2 := [_]) rfl (put35 _ _ _ _ [_]) ?_
     rintro t140 S140 ⟨rfl, A140, c140, rfl⟩
     refine tb 2 rfl ?_
     refine AWH.one (i := 7) (by kernel_rfl) rfl ?_
     refine AWL.call rfl rfl (B rfl) rfl ce_27 (E rfl rfl) (evsC (E rfl rfl) (evsC (E rfl rfl) (evsC (E rfl rfl) (evsC (E rfl rfl) evs0)))) (S1 := CB _ _ _ _) (S2 := [_]) rfl (rex34 _ _ _ _ _ _ _) ?_
     rintro t145 S145 ⟨rfl, A145, c145, rfl⟩
     refine tb 2 rfl ?_
     refine AWH.one (i := 9) (by kernel_rfl) rfl ?_
     refine AWL.call rfl rfl (B rfl) rfl ce_28 (E rfl rfl) (evsC (E rfl rfl) (evsC (E rfl rfl) evs0)) (S1 := CB _ _ _ _) (S2 := [_]) rfl (put35 _ _ _ _ [_, _]) ?_
     rintro t147 S147 ⟨rfl, A147, c147, rfl⟩
     refine tb 2 rfl ?_
     refine AWH.one (i := 14) (by kernel_rfl) rfl ?_
     refine AWL.call rfl rfl (B rfl) rfl ce_29 (E rfl rfl) (evsC (E rfl rfl) (evsC (E rfl rfl) (evsC (E rfl rfl) evs0))) (S1 := CB _ _ _ _) (S2 := [_]) rfl (two36 _ _ _ _ _ _) ?_
     rintro t152 S152 ⟨rfl, A152, c152, rfl⟩
     refine tb 2 rfl ?_
     refine AWH.done (by kernel_rfl) ?_
     refine retN .nil ?_
     refine cbx_end ?_
     rw [farF, if_neg h0f, if_neg h1f, if_neg h2f, if_neg h3f, if_neg h4f, if_neg h5f, if_neg h6f, if_neg h7f, if_pos h8t]
     skip
     simp only [List.append_assoc]
     rfl
   ·
    refine AWL.buildSlice1 rfl rfl (B rfl) rfl el_43 rfl (evsC (E rfl rfl) (evsC (E rfl rfl) evs0)) (Nat.le_of_ble_eq_true rfl) rfl rfl ?_
    refine tb 2 rfl ?_
    refine AWH.one (i := 1) (by kernel_rfl) rfl ?_
    refine AWL.buildSlice1 rfl rfl (B rfl) rfl el_43 rfl (evsC (E rfl rfl) evs0) (Nat.le_of_ble_eq_true rfl) rfl rfl ?_
    refine tb 2 rfl ?_
    refine AWH.one (i := 2) (by kernel_rfl) rfl ?_
    refine AWL.call rfl rfl (B rfl) rfl ce_28 (E rfl rfl) (evsC (E rfl rfl) (evsC (E rfl rfl) evs0)) (S1 := CB _ _ _ _) (S2 := [_]) rfl (put35 _ _ _ _ [_]) ?_
    rintro t140 S140 ⟨rfl, A140, c140, rfl⟩
    refine tb 2 rfl ?_
    refine AWH.one (i := 7) (by kernel_rfl) rfl ?_
    refine AWL.call rfl rfl (B rfl) rfl ce_27 (E rfl rfl) (evsC (E rfl rfl) (evsC (E rfl rfl) (evsC (E rfl rfl) (evsC (E rfl rfl) evs0)))) (S1 := CB _ _ _ _) (S2 := [_]) rfl (rex34 _ _ _ _ _ _ _) ?_
    rintro t145 S145 ⟨rfl, A145, c145, rfl⟩
    refine tb 2 rfl ?_
    refine AWH.one (i := 9) (by kernel_rfl) rfl ?_
    refine AWL.call rfl rfl (B rfl) rfl ce_28 (E rfl rfl) (evsC (E rfl rfl) (evsC (E rfl rfl) evs0)) (S1 := CB _ _ _ _) (S2 := [_]) rfl (put35 _ _ _ _ [_, _]) ?_
    rintro t147 S147 ⟨rfl, A147, c147, rfl⟩
    refine tb 2 rfl ?_
    refine AWH.one (i := 14) (by kernel_rfl) rfl ?_
    refine AWL.call rfl rfl (B rfl) rfl ce_29 (E rfl rfl) (evsC (E rfl rfl) (evsC (E rfl rfl) (evsC (E rfl rfl) evs0))) (S1 := CB _ _ _ _) (S2 := [_]) rfl (two36 _ _ _ _ _ _) ?_
    rintro t152 S152 ⟨rfl, A152, c152, rfl⟩
    refine tb 2 rfl ?_
    refine AWH.done (by kernel_rfl) ?_
    refine retN .nil ?_
    refine cbx_end ?_
    rw [farF, if_neg h0f, if_neg h1f, if_neg h2f, if_neg h3f, if_neg h4f, if_neg h5f, if_neg h6f, if_neg h7f, if_pos h8t]
    skip
    simp only [List.append_assoc]
    rfl
  try replace h8f := of_decide_eq_false h8f
  refine AW.rseq ?_
  refine AWL.y rfl rfl (B rfl) (Yv.eql rfl (E rfl rfl) (E rfl rfl)) ?_
  refine AWL.y rfl rfl (B rfl) (Yv.assign rfl (E rfl rfl)) ?_
  refine AWL.nil ?_
  refine AW.cond rfl (fun h9t => ?_) (fun h9f => ?_)
  ·
   try replace h9t := of_decide_eq_true h9t
   refine AW.regionH (HeldBox b3 (insVals i)) rfl (tells_box (k := 2) rfl) ?_
   refine AWH.tk (i := 0) rfl rfl rfl (B rfl) (heldAll (freeMove rfl (E rfl rfl))) ?_
   refine AWH.tk (i := 3) rfl rfl rfl (B rfl) (heldAll (freeField rfl fo_23_1 (E rfl rfl))) ?_
   refine AWH.tk (i := 4) rfl rfl rfl (B rfl) (heldLoad rfl ag_3 (E rfl rfl) rfl) ?_
   refine AWH.tk (i := 5) rfl rfl rfl (B rfl) (heldAll (freeField rfl fo_23_2 (E rfl rfl))) ?_
   refine AWH.tk (i := 6) rfl rfl rfl (B rfl) (heldLoad rfl ag_3 (E rfl rfl) rfl) ?_
   refine AWH.tk (i := 10) rfl rfl rfl (B rfl) (heldAll (freeField rfl fo_23_1 (E rfl rfl))) ?_
   refine AWH.tk (i := 11) rfl rfl rfl (B rfl) (heldLoad rfl ag_3 (E rfl rfl) rfl) ?_
   refine AWH.tk (i := 12) rfl rfl rfl (B rfl) (heldAll (freeField rfl fo_23_2 (E rfl rfl))) ?_
   refine AWH.tk (i := 13) rfl rfl rfl (B rfl) (heldLoad rfl ag_3 (E rfl rfl) rfl) ?_
   refine AWH.two (i := 1) (j := 8) (by kernel_rfl) rfl rfl ?_ ?_
   ·
    refine AWL.buildSlice1 rfl rfl (B rfl) rfl el_43 rfl (evsC (E rfl rfl) evs0) (Nat.le_of_ble_eq_true rfl) rfl rfl ?_
    refine tb 2 rfl ?_
    refine AWH.two (i := 2) (j := 8) (by kernel_rfl) rfl rfl ?_ ?_
    ·
     refine AWL.call rfl rfl (B rfl) rfl ce_28 (E rfl rfl) (evsC (E rfl rfl) (evsC (E rfl rfl) evs0)) (S1 := CB _ _ _ _) (S2 := [_]) rfl (put35 _ _ _ _ [_]) ?_
     rintro t157 S157 ⟨rfl, A157, c157, rfl⟩
     refine tb 2 rfl ?_
     refine AWH.two (i := 7) (j := 8) (by kernel_rfl) rfl rfl ?_ ?_
     ·
      refine AWL.call rfl rfl (B rfl) rfl ce_27 (E rfl rfl) (evsC (E rfl rfl) (evsC (E rfl rfl) (evsC (E rfl rfl) (evsC (E rfl rfl) evs0)))) (S1 := CB _ _ _ _) (S2 := [_]) rfl (rex34 _ _ _ _ _ _ _) ?_
      rintro t162 S162 ⟨rfl, A162, c162, rfl⟩
      refine tb 2 rfl ?_
      refine AWH.one (i := 8) (by kernel_rfl) rfl ?_
      refine AWL.buildSlice1 rfl rfl (B rfl) rfl el_43 rfl (evsC (E rfl rfl) (evsC (E rfl rfl) evs0)) (Nat.le_of_ble_eq_true rfl) rfl rfl ?_
      refine tb 2 rfl ?_
      refine AWH.one (i := 9) (by kernel_rfl) rfl ?_
      refine AWL.call rfl rfl (B rfl) rfl ce_28 (E rfl rfl) (evsC (E rfl rfl) (evsC (E rfl rfl) evs0)) (S1 := CB _ _ _ _) (S2 := [_]) rfl (put35 _ _ _ _ [_, _]) ?_
      rintro t164 S164 ⟨rfl, A164, c164, rfl⟩
      refine tb 2 rfl ?_
      refine AWH.one (i := 14) (by kernel_rfl) rfl ?_
      refine AWL.call rfl rfl (B rfl) rfl ce_29 (E rfl rfl) (evsC (E rfl rfl) (evsC (E rfl rfl) (evsC (E rfl rfl) evs0))) (S1 := CB _ _ _ _) (S2 := [_]) rfl (two36 _ _ _ _ _ _) ?_
      rintro t169 S169 ⟨rfl, A169, c169, rfl⟩
      refine tb 2 rfl ?_
      refine AWH.done (by kernel_rfl) ?_
      refine retN .nil ?_
      refine cbx_end ?_
      rw [farF, if_neg h0f, if_neg h1f, if_neg h2f, if_neg h3f, if_neg h4f, if_neg h5f, if_neg h6f, if_neg h7f, if_neg h8f, if_pos h9t]
      skip
      simp only [List.append_assoc]
      rfl
     ·
      refine AWL.buildSlice1 rfl rfl (B rfl) rfl el_43 rfl (evsC (E rfl rfl) (evsC (E rfl rfl) evs0)) (Nat.le_of_ble_eq_true rfl) rfl rfl ?_
      refine tb 2 rfl ?_
      refine AWH.one (i := 7) (by kernel_rfl) rfl ?_
      refine AWL.call rfl rfl (B rfl) rfl ce_27 (E rfl rfl) (evsC (E rfl rfl) (evsC (E rfl rfl) (evsC (E rfl rfl) (evsC (E rfl rfl) evs0)))) (S1 := CB _ _ _ _) (S2 := [_]) rfl (rex34 _ _ _ _ _ _ _) ?_
      rintro t162 S162 ⟨rfl, A162, c162, rfl⟩
      refine tb 2 rfl ?_
      refine AWH.one (i := 9) (by kernel_rfl) rfl ?_
      refine AWL.call rfl rfl (B rfl) rfl ce_28 (E rfl rfl) (evsC (E rfl rfl) (evsC (E rfl rfl) evs0)) (S1 := CB _ _ _ _) (S2 := [_]) rfl (put35 _ _ _ _ [_, _]) ?_
      rintro t164 S164 ⟨rfl, A164, c164, rfl⟩
      refine tb 2 rfl ?_
      refine AWH.one (i := 14) (by kernel_rfl) rfl ?_
      refine AWL.call rfl rfl (B rfl) rfl ce_29 (E rfl rfl) (evsC (E rfl rfl) (evsC (E rfl rfl) (evsC (E rfl rfl) evs0))) (S1 := CB _ _ _ _) (S2 := [_]) rfl (two36 _ _ _ _ _ _) ?_
      rintro t169 S169 ⟨rfl, A169, c169, rfl⟩
      refine tb 2 rfl ?_
      refine AWH.done (by kernel_rfl) ?_
      refine retN .nil ?_
      refine cbx_end ?_
      rw [farF, if_neg h0f, if_neg h1f, if_neg h2f, if_neg h3f, if_neg h4f, if_neg h5f, if_neg h6f, if_neg h7f, if_neg h8f, if_pos h9t]
      skip
      simp only [List.append_assoc]
      rfl
    ·
     refine AWL.buildSlice1 rfl rfl (B rfl) rfl el_43 rfl (evsC (E rfl rfl) (evsC (E rfl rfl) evs0)) (Nat.le_of_ble_eq_true rfl) rfl rfl ?_
     refine tb 2 rfl ?_
     refine AWH.one (i := 2) (by kernel_rfl) rfl ?_
     refine AWL.call rfl rfl (B rfl) rfl ce_28 (E rfl rfl) (evsC (E rfl rfl) (evsC (E rfl rfl) evs0)) (S1 := CB _ _ _ _) (S2 := [_]) rfl (put35 _ _ _ _ [_]) ?_
     rintro t157 S157 ⟨rfl, A157, c157, rfl⟩
     refine tb 2 rfl ?_
     refine AWH.one (i := 7) (by kernel_rfl) rfl ?_
     refine AWL.call rfl rfl (B rfl) rfl ce_27 (E rfl rfl) (evsC (E rfl rfl) (evsC (E rfl rfl) (evsC (E rfl rfl) (evsC (E rfl rfl) evs0)))) (S1 := CB _ _ _ _) (S2 := [_]) rfl (rex34 _ _ _ _ _ _ _) ?_
     rintro t162 S162 ⟨rfl, A162, c162, rfl⟩
     refine tb 2 rfl ?_
     refine AWH.one (i := 9) (by kernel_rfl) rfl ?_
     refine AWL.call rfl rfl (B rfl) rfl ce_28 (E rfl rfl) (evsC (E rfl rfl) (evsC (E rfl rfl) evs0)) (S1 := CB _ _ _ _) (S2 := [_]) rfl (put35 _ _ _ _ [_, _]) ?_
     rintro t164 S164 ⟨rfl, A164, c164, rfl⟩
     refine tb 2 rfl ?_
     refine AWH.one (i := 14) (by kernel_rfl) rfl ?_
     refine AWL.call rfl rfl (B rfl) rfl ce_29 (E rfl rfl) (evsC (E rfl rfl) (evsC (E rfl rfl) (evsC (E rfl rfl) evs0))) (S1 := CB _ _ _ _) (S2 := [_]) rfl (two36 _ _ _ _ _ _) ?_
     rintro t169 S169 ⟨rfl, A169, c169, rfl⟩
     refine tb 2 rfl ?_
     refine AWH.done (by kernel_rfl) ?_
     refine retN .nil ?_
     refine cbx_end ?_
     rw [farF, if_neg h0f, if_neg h1f, if_neg h2f, if_neg h3f, if_neg h4f, if_neg h5f, if_neg h6f, if_neg h7f, if_neg h8f, if_pos h9t]
     skip
     simp only [List.append_assoc]
     rfl
   ·
    refine AWL.buildSlice1 rfl rfl (B rfl) rfl el_43 rfl (evsC (E rfl rfl) (evsC (E rfl rfl) evs0)) (Nat.le_of_ble_eq_true rfl) rfl rfl ?_
    refine tb 2 rfl ?_
    refine AWH.one (i := 1) (by kernel_rfl) rfl ?_
    refine AWL.buildSlice1 rfl rfl (B rfl) rfl el_43 rfl (evsC (E rfl rfl) evs0) (Nat.le_of_ble_eq_true rfl) rfl rfl ?_
    refine tb 2 rfl ?_
    refine AWH.one (i := 2) (by kernel_rfl) rfl ?_
    refine AWL.call rfl rfl (B rfl) rfl ce_28 (E rfl rfl) (evsC (E rfl rfl) (evsC (E rfl rfl) evs0)) (S1 := CB _ _ _ _) (S2 := [_]) rfl (put35 _ _ _ _ [_]) ?_
    rintro t157 S157 ⟨rfl, A157, c157, rfl⟩
    refine tb 2 rfl ?_
    refine AWH.one (i := 7) (by kernel_rfl) rfl ?_
    refine AWL.call rfl rfl (B rfl) rfl ce_27 (E rfl rfl) (evsC (E rfl rfl) (evsC (E rfl rfl) (evsC (E rfl rfl) (evsC (E rfl rfl) evs0)))) (S1 := CB _ _ _ _) (S2 := [_]) rfl (rex34 _ _ _ _ _ _ _) ?_
    rintro t162 S162 ⟨rfl, A162, c162, rfl⟩
    refine tb 2 rfl ?_
    refine AWH.one (i := 9) (by kernel_rfl) rfl ?_
    refine AWL.call rfl rfl (B rfl) rfl ce_28 (E rfl rfl) (evsC (E rfl rfl) (evsC (E rfl rfl) evs0)) (S1 := CB _ _ _ _) (S2 := [_]) rfl (put35 _ _ _ _ [_, _]) ?_
    rintro t164 S164 ⟨rfl, A164, c164, rfl⟩
    refine tb 2 rfl ?_
    refine AWH.one (i := 14) (by kernel_rfl) rfl ?_
    refine AWL.call rfl rfl (B rfl) rfl ce_29 (E rfl rfl) (evsC (E rfl rfl) (evsC (E rfl rfl) (evsC (E rfl rfl) evs0))) (S1 := CB _ _ _ _) (S2 := [_]) rfl (two36 _ _ _ _ _ _) ?_
    rintro t169 S169 ⟨rfl, A169, c169, rfl⟩
    refine tb 2 rfl ?_
    refine AWH.done (by kernel_rfl) ?_
    refine retN .nil ?_
    refine cbx_end ?_
    rw [farF, if_neg h0f, if_neg h1f, if_neg h2f, if_neg h3f, if_neg h4f, if_neg h5f, if_neg h6f, if_neg h7f, if_neg h8f, if_pos h9t]
    skip
    simp only [List.append_assoc]
    rfl
  try replace h9f := of_decide_eq_false h9f
  refine AW.rseq ?_
  refine AWL.y rfl rfl (B rfl) (Yv.eql rfl (E rfl rfl) (E rfl rfl)) ?_
  refine AWL.y rfl rfl (B rfl) (Yv.assign rfl (E rfl rfl)) ?_
  refine AWL.nil ?_
  refine AW.cond rfl (fun h10t => ?_) (fun h10f => ?_)
  ·
   try replace h10t := of_decide_eq_true h10t
   refine AW.regionH (HeldBox b3 (insVals i)) rfl (tells_box (k := 2) rfl) ?_
   refine AWH.tk (i := 0) rfl rfl rfl (B rfl) (heldAll (freeMove rfl (E rfl rfl))) ?_
   refine AWH.tk (i := 3) rfl rfl rfl (B rfl) (heldAll (freeField rfl fo_23_1 (E rfl rfl))) ?_
   refine AWH.tk (i := 4) rfl rfl rfl (B rfl) (heldLoad rfl ag_3 (E rfl rfl) rfl) ?_
   refine AWH.tk (i := 5) rfl rfl rfl (B rfl) (heldAll (freeField rfl fo_23_2 (E rfl rfl))) ?_
   refine AWH.tk (i := 6) rfl rfl rfl (B rfl) (heldLoad rfl ag_3 (E rfl rfl) rfl) ?_
   refine AWH.tk (i := 10) rfl rfl rfl (B rfl) (heldAll (freeField rfl fo_23_1 (E rfl rfl))) ?_
   refine AWH.tk (i := 11) rfl rfl rfl (B rfl) (heldLoad rfl ag_3 (E rfl rfl) rfl) ?_
   refine AWH.tk (i := 12) rfl rfl rfl (B rfl) (heldAll (freeField rfl fo_23_2 (E rfl rfl))) ?_
   refine AWH.tk (i := 13) rfl rfl rfl (B rfl) (heldLoad rfl ag_3 (E rfl rfl) rfl) ?_
   refine AWH.two (i := 1) (j := 8) (by kernel_rfl) rfl rfl ?_ ?_
   ·
    refine AWL.buildSlice1 rfl rfl (B rfl) rfl el_43 rfl (evsC (E rfl rfl) evs0) (Nat.le_of_ble_eq_true rfl) rfl rfl ?_
    refine tb 2 rfl ?_
    refine AWH.two (i := 2) (j := 8) (by kernel_rfl) rfl rfl ?_ ?_
    ·
     refine AWL.call rfl rfl (B rfl) rfl ce_28 (E rfl rfl) (evsC (E rfl rfl) (evsC (E rfl rfl) evs0)) (S1 := CB _ _ _ _) (S2 := [_]) rfl (put35 _ _ _ _ [_]) ?_
     rintro t174 S174 ⟨rfl, A174, c174, rfl⟩
     refine tb 2 rfl ?_
     refine AWH.two (i := 7) (j := 8) (by kernel_rfl) rfl rfl ?_ ?_
     ·
      refine AWL.call rfl rfl (B rfl) rfl ce_27 (E rfl rfl) (evsC (E rfl rfl) (evsC (E rfl rfl) (evsC (E rfl rfl) (evsC (E rfl rfl) evs0)))) (S1 := CB _ _ _ _) (S2 := [_]) rfl (rex34 _ _ _ _ _ _ _) ?_
      rintro t179 S179 ⟨rfl, A179, c179, rfl⟩
      refine tb 2 rfl ?_
      refine AWH.one (i := 8) (by kernel_rfl) rfl ?_
      refine AWL.buildSlice1 rfl rfl (B rfl) rfl el_43 rfl (evsC (E rfl rfl) (evsC (E rfl rfl) evs0)) (Nat.le_of_ble_eq_true rfl) rfl rfl ?_
      refine tb 2 rfl ?_
      refine AWH.one (i := 9) (by kernel_rfl) rfl ?_
      refine AWL.call rfl rfl (B rfl) rfl ce_28 (E rfl rfl) (evsC (E rfl rfl) (evsC (E rfl rfl) evs0)) (S1 := CB _ _ _ _) (S2 := [_]) rfl (put35 _ _ _ _ [_, _]) ?_
      rintro t181 S181 ⟨rfl, A181, c181, rfl⟩
      refine tb 2 rfl ?_
      refine AWH.one (i := 14) (by kernel_rfl) rfl ?_
      refine AWL.call rfl rfl (B rfl) rfl ce_29 (E rfl rfl) (evsC (E rfl rfl) (evsC (E rfl rfl) (evsC (E rfl rfl) evs0))) (S1 := CB _ _ _ _) (S2 := [_]) rfl (two36 _ _ _ _ _ _) ?_
      rintro t186 S186 ⟨rfl, A186, c186, rfl⟩
      refine tb 2 rfl ?_
      refine AWH.done (by kernel_rfl) ?_
      refine retN .nil ?_
      refine cbx_end ?_
      rw [farF, if_neg h0f, if_neg h1f, if_neg h2f, if_neg h3f, if_neg h4f, if_neg h5f, if_neg h6f, if_neg h7f, if_neg h8f, if_neg h9f, if_pos h10t]
      skip
      simp only [List.append_assoc]
      rfl
     ·
      refine AWL.buildSlice1 rfl rfl (B rfl) rfl el_43 rfl (evsC (E rfl rfl) (evsC (E rfl rfl) evs0)) (Nat.le_of_ble_eq_true rfl) rfl rfl ?_
      refine tb 2 rfl ?_
      refine AWH.one (i := 7) (by kernel_rfl) rfl ?_
      refine AWL.call rfl rfl (B rfl) rfl ce_27 (E rfl rfl) (evsC (E rfl rfl) (evsC (E rfl rfl) (evsC (E rfl rfl) (evsC (E rfl rfl) evs0)))) (S1 := CB _ _ _ _) (S2 := [_]) rfl (rex34 _ _ _ _ _ _ _) ?_
      rintro t179 S179 ⟨rfl, A179, c179, rfl⟩
      refine tb 2 rfl ?_
      refine AWH.one (i := 9) (by kernel_rfl) rfl ?_
      refine AWL.call rfl rfl (B rfl) rfl ce_28 (E rfl rfl) (evsC (E rfl rfl) (evsC (E rfl rfl) evs0)) (S1 := CB _ _ _ _) (S2 := [_]) rfl (put35 _ _ _ _ [_, _]) ?_
      rintro t181 S181 ⟨rfl, A181, c181, rfl⟩
      refine tb 2 rfl ?_
      refine AWH.one (i := 14) (by kernel_rfl) rfl ?_
      refine AWL.call rfl rfl (B rfl) rfl ce_29 (E rfl rfl) (evsC (E rfl rfl) (evsC (E rfl rfl) (evsC (E rfl rfl) evs0))) (S1 := CB _ _ _ _) (S2 := [_]) rfl (two36 _ _ _ _ _ _) ?_
      rintro t186 S186 ⟨rfl, A186, c186, rfl⟩
      refine tb 2 rfl ?_
      refine AWH.done (by kernel_rfl) ?_
      refine retN .nil ?_
      refine cbx_end ?_
      rw [farF, if_neg h0f, if_neg h1f, if_neg h2f, if_neg h3f, if_neg h4f, if_neg h5f, if_neg h6f, if_neg h7f, if_neg h8f, if_neg h9f, if_pos h10t]
      skip
      simp only [List.append_assoc]
      rfl
    ·
     refine AWL.buildSlice1 rfl rfl (B rfl) rfl el_43 rfl (evsC (E rfl rfl) (evsC (E rfl rfl) evs0)) (Nat.le_of_ble_eq_true rfl) rfl rfl ?_
     refine tb 2 rfl ?_
     refine AWH.one (i := 2) (by kernel_rfl) rfl ?_
     refine AWL.call rfl rfl (B rfl) rfl ce_28 (E rfl rfl) (evsC (E rfl rfl) (evsC (E rfl rfl) evs0)) (S1 := CB _ _ _ _) (S2 := [_]) rfl (put35 _ _ _ _ [_]) ?_
     rintro t174 S174 ⟨rfl, A174, c174, rfl⟩
     refine tb 2 rfl ?_
     refine AWH.one (i := 7) (by kernel_rfl) rfl ?_
     refine AWL.call rfl rfl (B rfl) rfl ce_27 (E rfl rfl) (evsC (E rfl rfl) (evsC (E rfl rfl) (evsC (E rfl rfl) (evsC (E rfl rfl) evs0)))) (S1 := CB _ _ _ _) (S2 := [_]) rfl (rex34 _ _ _ _ _ _ _) ?_
     rintro t179 S179 ⟨rfl, A179, c179, rfl⟩
     refine tb 2 rfl ?_
     refine AWH.one (i := 9) (by kernel_rfl) rfl ?_
     refine AWL.call rfl rfl (B rfl) rfl ce_28 (E rfl rfl) (evsC (E rfl rfl) (evsC (E rfl rfl) evs0)) (S1 := CB _ _ _ _) (S2 := [_]) rfl (put35 _ _ _ _ [_, _]) ?_
     rintro t181 S181 ⟨rfl, A181, c181, rfl⟩
     refine tb 2 rfl ?_
     refine AWH.one (i := 14) (by kernel_rfl) rfl ?_
     refine AWL.call rfl rfl (B rfl) rfl ce_29 (E rfl rfl) (evsC (E rfl rfl) (evsC (E rfl rfl) (evsC (E rfl rfl) evs0))) (S1 := CB _ _ _ _) (S2 := [_]) rfl (two36 _ _ _ _ _ _) ?_
     rintro t186 S186 ⟨rfl, A186, c186, rfl⟩
     refine tb 2 rfl ?_
     refine AWH.done (by kernel_rfl) ?_
     refine retN .nil ?_
     refine cbx_end ?_
     rw [farF, if_neg h0f, if_neg h1f, if_neg h2f, if_neg h3f, if_neg h4f, if_neg h5f, if_neg h6f, if_neg h7f, if_neg h8f, if_neg h9f, if_pos h10t]
     skip
     simp only [List.append_assoc]
     rfl
   ·
    refine AWL.buildSlice1 rfl rfl (B rfl) rfl el_43 rfl (evsC (E rfl rfl) (evsC (E rfl rfl) evs0)) (Nat.le_of_ble_eq_true rfl) rfl rfl ?_
    refine tb 2 rfl ?_
    refine AWH.one (i := 1) (by kernel_rfl) rfl ?_
    refine AWL.buildSlice1 rfl rfl (B rfl) rfl el_43 rfl (evsC (E rfl rfl) evs0) (Nat.le_of_ble_eq_true rfl) rfl rfl ?_
    refine tb 2 rfl ?_
    refine AWH.one (i := 2) (by kernel_rfl) rfl ?_
    refine AWL.call rfl rfl (B rfl) rfl ce_28 (E rfl rfl) (evsC (E rfl rfl) (evsC (E rfl rfl) evs0)) (S1 := CB _ _ _ _) (S2 := [_]) rfl (put35 _ _ _ _ [_]) ?_
    rintro t174 S174 ⟨rfl, A174, c174, rfl⟩
    refine tb 2 rfl ?_
    refine AWH.one (i := 7) (by kernel_rfl) rfl ?_
    refine AWL.call rfl rfl (B rfl) rfl ce_27 (E rfl rfl) (evsC (E rfl rfl) (evsC (E rfl rfl) (evsC (E rfl rfl) (evsC (E rfl rfl) evs0)))) (S1 := CB _ _ _ _) (S2 := [_]) rfl (rex34 _ _ _ _ _ _ _) ?_
    rintro t179 S179 ⟨rfl, A179, c179, rfl⟩
    refine tb 2 rfl ?_
    refine AWH.one (i := 9) (by kernel_rfl) rfl ?_
    refine AWL.call rfl rfl (B rfl) rfl ce_28 (E rfl rfl) (evsC (E rfl rfl) (evsC (E rfl rfl) evs0)) (S1 := CB _ _ _ _) (S2 := [_]) rfl (put35 _ _ _ _ [_, _]) ?_
    rintro t181 S181 ⟨rfl, A181, c181, rfl⟩
    refine tb 2 rfl ?_
    refine AWH.one (i := 14) (by kernel_rfl) rfl ?_
    refine AWL.call rfl rfl (B rfl) rfl ce_29 (E rfl rfl) (evsC (E rfl rfl) (evsC (E rfl rfl) (evsC (E rfl rfl) evs0))) (S1 := CB _ _ _ _) (S2 := [_]) rfl (two36 _ _ _ _ _ _) ?_
    rintro t186 S186 ⟨rfl, A186, c186, rfl⟩
    refine tb 2 rfl ?_
    refine AWH.done (by kernel_rfl) ?_
    refine retN .nil ?_
    refine cbx_end ?_
    rw [farF, if_neg h0f, if_neg h1f, if_neg h2f, if_neg h3f, if_neg h4f, if_neg h5f, if_neg h6f, if_neg h7f, if_neg h8f, if_neg h9f, if_pos h10t]
    skip
    simp only [List.append_assoc]
    rfl
  try replace h10f := of_decide_eq_false h10f
  refine AW.rseq ?_
  refine AWL.y rfl rfl (B rfl) (Yv.eql rfl (E rfl rfl) (E rfl rfl)) ?_
  refine AWL.y rfl rfl (B rfl) (Yv.assign rfl (E rfl rfl)) ?_
  refine AWL.nil ?_
  refine AW.cond rfl (fun h11t => ?_) (fun h11f => ?_)
  ·
   try replace h11t := of_decide_eq_true h11t
   refine AW.regionH (HeldBox b3 (insVals i)) rfl (tells_box (k := 2) rfl) ?_
   refine AWH.tk (i := 0) rfl rfl rfl (B rfl) (heldAll (freeMove rfl (E rfl rfl))) ?_
   refine AWH.tk (i := 3) rfl rfl rfl (B rfl) (heldAll (freeField rfl fo_23_1 (E rfl rfl))) ?_
   refine AWH.tk (i := 4) rfl rfl rfl (B rfl) (heldLoad rfl ag_3 (E rfl rfl) rfl) ?_
   refine AWH.tk (i := 5) rfl rfl rfl (B rfl) (heldAll (freeField rfl fo_23_2 (E rfl rfl))) ?_
   refine AWH.tk (i := 6) rfl rfl rfl (B rfl) (heldLoad rfl ag_3 (E rfl rfl) rfl) ?_
   refine AWH.tk (i := 10) rfl rfl rfl (B rfl) (heldAll (freeField rfl fo_23_1 (E rfl rfl))) ?_
   refine AWH.tk (i := 11) rfl rfl rfl (B rfl) (heldLoad rfl ag_3 (E rfl rfl) rfl) ?_
   refine AWH.tk (i := 12) rfl rfl rfl (B rfl) (heldAll (freeField rfl fo_23_2 (E rfl rfl))) ?_
   refine AWH.tk (i := 13) rfl rfl rfl (B rfl) (heldLoad rfl ag_3 (E rfl rfl) rfl) ?_
   refine AWH.two (i := 1) (j := 8) (by kernel_rfl) rfl rfl ?_ ?_
   ·
    refine AWL.buildSlice1 rfl rfl (B rfl) rfl el_43 rfl (evsC (E rfl rfl) evs0) (Nat.le_of_ble_eq_true rfl) rfl rfl ?_
    refine tb 2 rfl ?_
    refine AWH.two (i := 2) (j := 8) (by kernel_rfl) rfl rfl ?_ ?_
    ·
     refine AWL.call rfl rfl (B rfl) rfl ce_28 (E rfl rfl) (evsC (E rfl rfl) (evsC (E rfl rfl) evs0)) (S1 := CB _ _ _ _) (S2 := [_]) rfl (put35 _ _ _ _ [_]) ?_
     rintro t191 S191 ⟨rfl, A191, c191, rfl⟩
     refine tb 2 rfl ?_
     refine AWH.two (i := 7) (j := 8) (by kernel_rfl) rfl rfl ?_ ?_
     ·
      refine AWL.call rfl rfl (B rfl) rfl ce_27 (E rfl rfl) (evsC (E rfl rfl) (evsC (E rfl rfl) (evsC (E rfl rfl) (evsC (E rfl rfl) evs0)))) (S1 := CB _ _ _ _) (S2 := [_]) rfl (rex34 _ _ _ _ _ _ _) ?_
      rintro t196 S196 ⟨rfl, A196, c196, rfl⟩
      refine tb 2 rfl ?_
      refine AWH.one (i := 8) (by kernel_rfl) rfl ?_
      refine AWL.buildSlice1 rfl rfl (B rfl) rfl el_43 rfl (evsC (E rfl rfl) (evsC (E rfl rfl) evs0)) (Nat.le_of_ble_eq_true rfl) rfl rfl ?_
      refine tb 2 rfl ?_
      refine AWH.one (i := 9) (by kernel_rfl) rfl ?_
      refine AWL.call rfl rfl (B rfl) rfl ce_28 (E rfl rfl) (evsC (E rfl rfl) (evsC (E rfl rfl) evs0)) (S1 := CB _ _ _ _) (S2 := [_]) rfl (put35 _ _ _ _ [_, _]) ?_
      rintro t198 S198 ⟨rfl, A198, c198, rfl⟩
      refine tb 2 rfl ?_
      refine AWH.one (i := 14) (by kernel_rfl) rfl ?_
      refine AWL.call rfl rfl (B rfl) rfl ce_29 (E rfl rfl) (evsC (E rfl rfl) (evsC (E rfl rfl) (evsC (E rfl rfl) evs0))) (S1 := CB _ _ _ _) (S2 := [_]) rfl (two36 _ _ _ _ _ _) ?_
      rintro t203 S203 ⟨rfl, A203, c203, rfl⟩
      refine tb 2 rfl ?_
      refine AWH.done (by kernel_rfl) ?_
      refine retN .nil ?_
      refine cbx_end ?_
      rw [farF, if_neg h0f, if_neg h1f, if_neg h2f, if_neg h3f, if_neg h4f, if_neg h5f, if_neg h6f, if_neg h7f, if_neg h8f, if_neg h9f, if_neg h10f, if_pos h11t]
      skip
      simp only [List.append_assoc]
      rfl
     ·
      refine AWL.buildSlice1 rfl rfl (B rfl) rfl el_43 rfl (evsC (E rfl rfl) (evsC (E rfl rfl) evs0)) (Nat.le_of_ble_eq_true rfl) rfl rfl ?_
      refine tb 2 rfl ?_
      refine AWH.one (i := 7) (by kernel_rfl) rfl ?_
      refine AWL.call rfl rfl (B rfl) rfl ce_27 (E rfl rfl) (evsC (E rfl rfl) (evsC (E rfl rfl) (evsC (E rfl rfl) (evsC (E rfl rfl) evs0)))) (S1 := CB _ _ _ _) (S2 := [_]) rfl (rex34 _ _ _ _ _ _ _) ?_
      rintro t196 S196 ⟨rfl, A196, c196, rfl⟩
      refine tb 2 rfl ?_
      refine AWH.one (i := 9) (by kernel_rfl) rfl ?_
      refine AWL.call rfl rfl (B rfl) rfl ce_28 (E rfl rfl) (evsC (E rfl rfl) (evsC (E rfl rfl) evs0)) (S1 := CB _ _ _ _) (S2 := [_]) rfl (put35 _ _ _ _ [_, _]) ?_
      rintro t198 S198 ⟨rfl, A198, c198, rfl⟩
      refine tb 2 rfl ?_
      refine AWH.one (i := 14) (by kernel_rfl) rfl ?_
      refine AWL.call rfl rfl (B rfl) rfl ce_29 (E rfl rfl) (evsC (E rfl rfl) (evsC (E rfl rfl) (evsC (E rfl rfl) evs0))) (S1 := CB _ _ _ _) (S2 := [_]) rfl (two36 _ _ _ _ _ _) ?_
      rintro t203 S203 ⟨rfl, A203, c203, rfl⟩
      refine tb 2 rfl ?_
      refine AWH.done (by kernel_rfl) ?_
      refine retN .nil ?_
      refine cbx_end ?_
      rw [farF, if_neg h0f, if_neg h1f, if_neg h2f, if_neg h3f, if_neg h4f, if_neg h5f, if_neg h6f, if_neg h7f, if_neg h8f, if_neg h9f, if_neg h10f, if_pos h11t]
      skip
      simp only [List.append_assoc]
      rfl
    ·
     refine AWL.buildSlice1 rfl rfl (B rfl) rfl el_43 rfl (evsC (E rfl rfl) (evsC (E rfl rfl) evs0)) (Nat.le_of_ble_eq_true rfl) rfl rfl ?_
     refine tb 2 rfl ?_
     refine AWH.one (i := 2) (by kernel_rfl) rfl ?_
     refine AWL.call rfl rfl (B rfl) rfl ce_28 (E rfl rfl) (evsC (E rfl rfl) (evsC (E rfl rfl) evs0)) (S1 := CB _ _ _ _) (S2 := [_]) rfl (put35 _ _ _ _ [_]) ?_
     rintro t191 S191 ⟨rfl, A191, c191, rfl⟩
     refine tb 2 rfl ?_
     refine AWH.one (i := 7) (by kernel_rfl) rfl ?_
     refine AWL.call rfl rfl (B rfl) rfl ce_27 (E rfl rfl) (evsC (E rfl rfl) (evsC (E rfl rfl) (evsC (E rfl rfl) (evsC (E rfl rfl) evs0)))) (S1 := CB _ _ _ _) (S2 := [_]) rfl (rex34 _ _ _ _ _ _ _) ?_
     rintro t196 S196 ⟨rfl, A196, c196, rfl⟩
     refine tb 2 rfl ?_
     refine AWH.one (i := 9) (by kernel_rfl) rfl ?_
     refine AWL.call rfl rfl (B rfl) rfl ce_28 (E rfl rfl) (evsC (E rfl rfl) (evsC (E rfl rfl) evs0)) (S1 := CB _ _ _ _) (S2 := [_]) rfl (put35 _ _ _ _ [_, _]) ?_
     rintro t198 S198 ⟨rfl, A198, c198, rfl⟩
     refine tb 2 rfl ?_
     refine AWH.one (i := 14) (by kernel_rfl) rfl ?_
     refine AWL.call rfl rfl (B rfl) rfl ce_29 (E rfl rfl) (evsC (E rfl rfl) (evsC (E rfl rfl) (evsC (E rfl rfl) evs0))) (S1 := CB _ _ _ _) (S2 := [_]) rfl (two36 _ _ _ _ _ _) ?_
     rintro t203 S203 ⟨rfl, A203, c203, rfl⟩
     refine tb 2 rfl ?_
     refine AWH.done (by kernel_rfl) ?_
     refine retN .nil ?_
     refine cbx_end ?_
     rw [farF, if_neg h0f, if_neg h1f, if_neg h2f, if_neg h3f, if_neg h4f, if_neg h5f, if_neg h6f, if_neg h7f, if_neg h8f, if_neg h9f, if_neg h10f, if_pos h11t]
     skip
     simp only [List.append_assoc]
     rfl
   ·
    refine AWL.buildSlice1 rfl rfl (B rfl) rfl el_43 rfl (evsC (E rfl rfl) (evsC (E rfl rfl) evs0)) (Nat.le_of_ble_eq_true rfl) rfl rfl ?_
    refine tb 2 rfl ?_
    refine AWH.one (i := 1) (by kernel_rfl) rfl ?_
    refine AWL.buildSlice1 rfl rfl (B rfl) rfl el_43 rfl (evsC (E rfl rfl) evs0) (Nat.le_of_ble_eq_true rfl) rfl rfl ?_
    refine tb 2 rfl ?_
    refine AWH.one (i := 2) (by kernel_rfl) rfl ?_
    refine AWL.call rfl rfl (B rfl) rfl ce_28 (E rfl rfl) (evsC (E rfl rfl) (evsC (E rfl rfl) evs0)) (S1 := CB _ _ _ _) (S2 := [_]) rfl (put35 _ _ _ _ [_]) ?_
    rintro t191 S191 ⟨rfl, A191, c191, rfl⟩
    refine tb 2 rfl ?_
    refine AWH.one (i := 7) (by kernel_rfl) rfl ?_
    refine AWL.call rfl rfl (B rfl) rfl ce_27 (E rfl rfl) (evsC (E rfl rfl) (evsC (E rfl rfl) (evsC (E rfl rfl) (evsC (E rfl rfl) evs0)))) (S1 := CB _ _ _ _) (S2 := [_]) rfl (rex34 _ _ _ _ _ _ _) ?_
    rintro t196 S196 ⟨rfl, A196, c196, rfl⟩
    refine tb 2 rfl ?_
    refine AWH.one (i := 9) (by kernel_rfl) rfl ?_
    refine AWL.call rfl rfl (B rfl) rfl ce_28 (E rfl rfl) (evsC (E rfl rfl) (evsC (E rfl rfl) evs0)) (S1 := CB _ _ _ _) (S2 := [_]) rfl (put35 _ _ _ _ [_, _]) ?_
    rintro t198 S198 ⟨rfl, A198, c198, rfl⟩
    refine tb 2 rfl ?_
    refine AWH.one (i := 14) (by kernel_rfl) rfl ?_
    refine AWL.call rfl rfl (B rfl) rfl ce_29 (E rfl rfl) (evsC (E rfl rfl) (evsC (E rfl rfl) (evsC (E rfl rfl) evs0))) (S1 := CB _ _ _ _) (S2 := [_]) rfl (two36 _ _ _ _ _ _) ?_
    rintro t203 S203 ⟨rfl, A203, c203, rfl⟩
    refine tb 2 rfl ?_
    refine AWH.done (by kernel_rfl) ?_
    refine retN .nil ?_
    refine cbx_end ?_
    rw [farF, if_neg h0f, if_neg h1f, if_neg h2f, if_neg h3f, if_neg h4f, if_neg h5f, if_neg h6f, if_neg h7f, if_neg h8f, if_neg h9f, if_neg h10f, if_pos h11t]
    skip
    simp only [List.append_assoc]
    rfl
  try replace h11f := of_decide_eq_false h11f
  exfalso; omega

end Go.Proofs.YtjndpakhmgapjaaDoor
