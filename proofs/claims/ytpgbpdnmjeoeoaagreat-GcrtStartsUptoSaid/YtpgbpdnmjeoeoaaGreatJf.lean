/-
  TEXTS JOINED: BWk8, GGd, Gk1, GGs, GGn, Gk2, GGi, Gk3, Gk4, GGh, Gk5, Gk6, GGo.
-/
import Derived.Test.YtpgbpdnmjeoeoaaGreatRows
import Derived.ProofKit
import Derived.OpenShut
import Derived.JoinedCond
import Derived.Carry
import Derived.Deep.Slices
import Derived.Test.YtpgbpdnmjeoeoaaGreatJe
set_option linter.unusedSimpArgs false
set_option linter.unusedVariables false
set_option linter.unusedSectionVars false
set_option linter.unnecessarySimpa false
namespace Go.Proofs.YtpgbpdnmjeoeoaaGreat.B
open Go Go.RowKit

def mMain : BM Unit := bnd (mCall 1 []) fun _ => mRetC 0
def fMain : Fn := fnB (mMain (bd0 [109, 97, 105, 110] 0)).2
def gcP : Prog := ⟨fMain :: gcFns, List.replicate 400 0, 0⟩
theorem zeros_data : (List.replicate 400 (([.int .u8 0] : List Value).map T.v)).flatten = (List.replicate 400 (0 : UInt8)).map u8 := by
 rw [List.map_replicate, List.map_cons, List.map_nil]
 exact flat_one _ _
set_option maxHeartbeats 16000000 in
theorem cProgram_  :
    ACalls Tryz.prog 18 [] [] (fun t S => t = .agg (progCells gcP)) := by
 refine ACalls.intro Tryz.func18 rfl Tryz.ntmps18 nB rfl fun X w0 => ?_
 refine rs ?_
 refine AWL.allocOp rfl rfl (B rfl) rfl zc_56 (fun b0 => ?_)
 refine AWL.perm (List.perm_append_singleton _ _).symm (nl ?_)
 refine rs ?_
 refine AWL.callE rfl rfl (B rfl) rfl ce_32 (E rfl rfl) (evsC (E rfl rfl) (evsC (E rfl rfl) evs0)) (F1 := [Ent.box b0 56 (([.slice none 0 0, .slice none 0 0, .int .i64 0] : List Value).map T.v)]) (S1 := []) rfl (cNew [109, 97, 105, 110] 0) ?_
 rintro t2 S2 ⟨p, rfl, rfl⟩
 have ok0 : BdOk 1 (bd0 [109, 97, 105, 110] 0) := ⟨by decide, by decide, by decide, by decide, by decide, by decide, by decide⟩
 refine ya ?_
 refine rs (ym ?_)
 refine AWL.callE rfl rfl (B rfl) rfl ce_33 (E rfl rfl) (evsC (E rfl rfl) (evsC (E rfl rfl) (evsC (E rfl rfl) evs0))) (F1 := [Ent.box b0 56 (([.slice none 0 0, .slice none 0 0, .int .i64 0] : List Value).map T.v)]) (S1 := (BdE p (bd0 [109, 97, 105, 110] 0) none 0)) rfl ((cCall p 1 (bd0 [109, 97, 105, 110] 0) none 0 ok0 (by omega) (1) []).le (.cons .refl (.cons .refl (.cons nilSl (.refl))))) ?_
 rintro t4 S4 ⟨d1, bd1, A1, c1, e1, ok1, rfl, rfl⟩
 refine nl ?_
 refine rs (ym ?_)
 refine AWL.callE rfl rfl (B rfl) rfl ce_34 (E rfl rfl) (evsC (E rfl rfl) (evsC (E rfl rfl) evs0)) (F1 := [Ent.box b0 56 (([.slice none 0 0, .slice none 0 0, .int .i64 0] : List Value).map T.v)]) (S1 := (BdE p bd1 A1 c1)) rfl (cRetC p (1 + 2) bd1 A1 c1 ok1 (by omega) (0)) ?_
 rintro t6 S6 ⟨d2, bd2, A2, c2, e2, ok2, rfl, rfl⟩
 refine nl ?_
 refine AW.rseqH (HeldCs []) rfl (tells_cs tc0) ?_
 refine T2 (i := 0) rfl (heldAll (freeMove rfl (E rfl rfl))) ?_
 refine AWH.two (i := 1) (j := 5) (by kernel_rfl) rfl rfl ?_ ?_
 ·have hMain : fnB bd2 = fMain := by unfold fMain; rw [show mMain (bd0 [109, 97, 105, 110] 0) = ((), bd2) from (bq e1).trans e2]
  refine AWL.callE rfl rfl (B rfl) rfl ce_35 (E rfl rfl) (evsC (E rfl rfl) evs0) (F1 := [Ent.box b0 56 (([.slice none 0 0, .slice none 0 0, .int .i64 0] : List Value).map T.v)]) (S1 := (BdE p bd2 A2 c2)) rfl (cDone p bd2 A2 c2) ?_
  rintro t8 S8 ⟨hD, rfl⟩
  rw [hMain] at hD
  subst hD
  refine AWL.nil (kpH tc0 ?_)
  refine AWH.three (i := 2) (j := 3) (k := 5) (by kernel_rfl) rfl rfl rfl ?_ ?_ ?_
  ·refine AWL.buildSliceRow rfl rfl (B rfl) rfl el_53 (B rfl) rfl (evsC (E rfl rfl) evs0) (by decide) rfl rfl (fun A9 => ?_)
   refine AWL.perm (List.perm_append_singleton _ _).symm ?_
   refine AWL.nil (kpH tc0 ?_)
   refine AWH.two (i := 3) (j := 5) (by kernel_rfl) rfl rfl ?_ ?_
   ·refine AWL.callE rfl rfl (B rfl) rfl ce_36 (E rfl rfl) (evsC (E rfl rfl) evs0) (F1 := [Ent.row A9 1 1 93 5 (([.agg (fnCells fMain)] : List T).flatMap cellsT), Ent.box b0 56 (([.slice none 0 0, .slice none 0 0, .int .i64 0] : List Value).map T.v)]) (S1 := []) rfl (cFunctions) ?_
    rintro t10 S10 ⟨rfl, rfl⟩
    refine AWL.nil (kpH tc0 ?_)
    refine AWH.two (i := 4) (j := 5) (by kernel_rfl) rfl rfl ?_ ?_
    ·refine AWL.appendRow (i := 0) rfl rfl (B rfl) rfl el_53 (B rfl) rfl (E rfl rfl) (SrcT.sl (m := 11) so_53 (B rfl) (E rfl rfl) rfl) (by unfold maxLen; omega) (by omega) (fun A11 c11 => ?_)
     refine AWL.nil (kpH tc0 ?_)
     refine AWH.one (i := 5) (by kernel_rfl) rfl ?_
     refine AWL.makeRow (n := 400) (c := 400) rfl rfl (B rfl) rfl el_54 (E rfl rfl) (E rfl rfl) (Nat.le_refl _) (by omega) (by unfold maxLen; omega) (fun A12 => ?_)
     refine AWL.perm (List.perm_append_singleton _ _).symm ?_
     refine AWL.nil (kpH tc0 ?_)
     refine AWH.one (i := 6) (by kernel_rfl) rfl ?_
     refine Y1 (Yv.buildS rfl sh_56 (evpC eV (evpC eV evp0)) (fun _ => rfl)) ?_
     refine AWL.nil (kpH tc0 ?_)
     refine AWH.one (i := 7) (by kernel_rfl) rfl ?_
     refine AWL.storeBox (i := 2) rfl rfl rfl ag_56 rfl (E rfl rfl) (E rfl rfl) rfl rfl nB ?_
     refine AWL.nil (kpH tc0 ?_)
     refine AWH.done (by kernel_rfl) ?_
     refine AW.freezeCell 1 1 0 rfl (by decide) rfl rfl ?_
     refine AW.freezeCell 0 0 1 rfl (by decide) rfl rfl ?_
     refine AW.ret (retI (.cellA (i := 0) rfl ag_56 rfl rfl rfl .nil) ?_)
     refine congrArg T.agg ?_
     show [T.sl 5 _, T.sl 1 _, _] = [T.sl 5 _, T.sl 1 _, _]
     rw [zeros_data]
     try rfl
    refine AWL.makeRow (n := 400) (c := 400) rfl rfl (B rfl) rfl el_54 (E rfl rfl) (E rfl rfl) (Nat.le_refl _) (by omega) (by unfold maxLen; omega) (fun A12 => ?_)
    refine AWL.perm (List.perm_append_singleton _ _).symm ?_
    refine AWL.nil (kpH tc0 ?_)
    refine AWH.one (i := 4) (by kernel_rfl) rfl ?_
    refine AWL.appendRow (i := 1) rfl rfl (B rfl) rfl el_53 (B rfl) rfl (E rfl rfl) (SrcT.sl (m := 11) so_53 (B rfl) (E rfl rfl) rfl) (by unfold maxLen; omega) (by omega) (fun A11 c11 => ?_)
    refine AWL.nil (kpH tc0 ?_)
    refine AWH.one (i := 6) (by kernel_rfl) rfl ?_
    refine Y1 (Yv.buildS rfl sh_56 (evpC eV (evpC eV evp0)) (fun _ => rfl)) ?_
    refine AWL.nil (kpH tc0 ?_)
    refine AWH.one (i := 7) (by kernel_rfl) rfl ?_
    refine AWL.storeBox (i := 2) rfl rfl rfl ag_56 rfl (E rfl rfl) (E rfl rfl) rfl rfl nB ?_
    refine AWL.nil (kpH tc0 ?_)
    refine AWH.done (by kernel_rfl) ?_
    refine AW.freezeCell 1 1 0 rfl (by decide) rfl rfl ?_
    refine AW.freezeCell 0 0 1 rfl (by decide) rfl rfl ?_
    refine AW.ret (retI (.cellA (i := 0) rfl ag_56 rfl rfl rfl .nil) ?_)
    refine congrArg T.agg ?_
    show [T.sl 5 _, T.sl 1 _, _] = [T.sl 5 _, T.sl 1 _, _]
    rw [zeros_data]
    try rfl
   refine AWL.makeRow (n := 400) (c := 400) rfl rfl (B rfl) rfl el_54 (E rfl rfl) (E rfl rfl) (Nat.le_refl _) (by omega) (by unfold maxLen; omega) (fun A12 => ?_)
   refine AWL.perm (List.perm_append_singleton _ _).symm ?_
   refine AWL.nil (kpH tc0 ?_)
   refine AWH.one (i := 3) (by kernel_rfl) rfl ?_
   refine AWL.callE rfl rfl (B rfl) rfl ce_36 (E rfl rfl) (evsC (E rfl rfl) evs0) (F1 := [Ent.row A12 400 400 5 1 (List.replicate 400 (([.int .u8 0] : List Value).map T.v)).flatten, Ent.row A9 1 1 93 5 (([.agg (fnCells fMain)] : List T).flatMap cellsT), Ent.box b0 56 (([.slice none 0 0, .slice none 0 0, .int .i64 0] : List Value).map T.v)]) (S1 := []) rfl (cFunctions) ?_
   rintro t10 S10 ⟨rfl, rfl⟩
   refine AWL.nil (kpH tc0 ?_)
   refine AWH.one (i := 4) (by kernel_rfl) rfl ?_
   refine AWL.appendRow (i := 1) rfl rfl (B rfl) rfl el_53 (B rfl) rfl (E rfl rfl) (SrcT.sl (m := 11) so_53 (B rfl) (E rfl rfl) rfl) (by unfold maxLen; omega) (by omega) (fun A11 c11 => ?_)
   refine AWL.nil (kpH tc0 ?_)
   refine AWH.one (i := 6) (by kernel_rfl) rfl ?_
   refine Y1 (Yv.buildS rfl sh_56 (evpC eV (evpC eV evp0)) (fun _ => rfl)) ?_
   refine AWL.nil (kpH tc0 ?_)
   refine AWH.one (i := 7) (by kernel_rfl) rfl ?_
   refine AWL.storeBox (i := 2) rfl rfl rfl ag_56 rfl (E rfl rfl) (E rfl rfl) rfl rfl nB ?_
   refine AWL.nil (kpH tc0 ?_)
   refine AWH.done (by kernel_rfl) ?_
   refine AW.freezeCell 1 1 0 rfl (by decide) rfl rfl ?_
   refine AW.freezeCell 0 0 1 rfl (by decide) rfl rfl ?_
   refine AW.ret (retI (.cellA (i := 0) rfl ag_56 rfl rfl rfl .nil) ?_)
   refine congrArg T.agg ?_
   show [T.sl 5 _, T.sl 1 _, _] = [T.sl 5 _, T.sl 1 _, _]
   rw [zeros_data]
   try rfl
  ·refine AWL.callE rfl rfl (B rfl) rfl ce_36 (E rfl rfl) (evsC (E rfl rfl) evs0) (F1 := [Ent.box b0 56 (([.slice none 0 0, .slice none 0 0, .int .i64 0] : List Value).map T.v)]) (S1 := []) rfl (cFunctions) ?_
   rintro t10 S10 ⟨rfl, rfl⟩
   refine AWL.nil (kpH tc0 ?_)
   refine AWH.two (i := 2) (j := 5) (by kernel_rfl) rfl rfl ?_ ?_
   ·refine AWL.buildSliceRow rfl rfl (B rfl) rfl el_53 (B rfl) rfl (evsC (E rfl rfl) evs0) (by decide) rfl rfl (fun A9 => ?_)
    refine AWL.perm (List.perm_append_singleton _ _).symm ?_
    refine AWL.nil (kpH tc0 ?_)
    refine AWH.two (i := 4) (j := 5) (by kernel_rfl) rfl rfl ?_ ?_
    ·refine AWL.appendRow (i := 0) rfl rfl (B rfl) rfl el_53 (B rfl) rfl (E rfl rfl) (SrcT.sl (m := 11) so_53 (B rfl) (E rfl rfl) rfl) (by unfold maxLen; omega) (by omega) (fun A11 c11 => ?_)
     refine AWL.nil (kpH tc0 ?_)
     refine AWH.one (i := 5) (by kernel_rfl) rfl ?_
     refine AWL.makeRow (n := 400) (c := 400) rfl rfl (B rfl) rfl el_54 (E rfl rfl) (E rfl rfl) (Nat.le_refl _) (by omega) (by unfold maxLen; omega) (fun A12 => ?_)
     refine AWL.perm (List.perm_append_singleton _ _).symm ?_
     refine AWL.nil (kpH tc0 ?_)
     refine AWH.one (i := 6) (by kernel_rfl) rfl ?_
     refine Y1 (Yv.buildS rfl sh_56 (evpC eV (evpC eV evp0)) (fun _ => rfl)) ?_
     refine AWL.nil (kpH tc0 ?_)
     refine AWH.one (i := 7) (by kernel_rfl) rfl ?_
     refine AWL.storeBox (i := 2) rfl rfl rfl ag_56 rfl (E rfl rfl) (E rfl rfl) rfl rfl nB ?_
     refine AWL.nil (kpH tc0 ?_)
     refine AWH.done (by kernel_rfl) ?_
     refine AW.freezeCell 1 1 0 rfl (by decide) rfl rfl ?_
     refine AW.freezeCell 0 0 1 rfl (by decide) rfl rfl ?_
     refine AW.ret (retI (.cellA (i := 0) rfl ag_56 rfl rfl rfl .nil) ?_)
     refine congrArg T.agg ?_
     show [T.sl 5 _, T.sl 1 _, _] = [T.sl 5 _, T.sl 1 _, _]
     rw [zeros_data]
     try rfl
    refine AWL.makeRow (n := 400) (c := 400) rfl rfl (B rfl) rfl el_54 (E rfl rfl) (E rfl rfl) (Nat.le_refl _) (by omega) (by unfold maxLen; omega) (fun A12 => ?_)
    refine AWL.perm (List.perm_append_singleton _ _).symm ?_
    refine AWL.nil (kpH tc0 ?_)
    refine AWH.one (i := 4) (by kernel_rfl) rfl ?_
    refine AWL.appendRow (i := 1) rfl rfl (B rfl) rfl el_53 (B rfl) rfl (E rfl rfl) (SrcT.sl (m := 11) so_53 (B rfl) (E rfl rfl) rfl) (by unfold maxLen; omega) (by omega) (fun A11 c11 => ?_)
    refine AWL.nil (kpH tc0 ?_)
    refine AWH.one (i := 6) (by kernel_rfl) rfl ?_
    refine Y1 (Yv.buildS rfl sh_56 (evpC eV (evpC eV evp0)) (fun _ => rfl)) ?_
    refine AWL.nil (kpH tc0 ?_)
    refine AWH.one (i := 7) (by kernel_rfl) rfl ?_
    refine AWL.storeBox (i := 2) rfl rfl rfl ag_56 rfl (E rfl rfl) (E rfl rfl) rfl rfl nB ?_
    refine AWL.nil (kpH tc0 ?_)
    refine AWH.done (by kernel_rfl) ?_
    refine AW.freezeCell 1 1 0 rfl (by decide) rfl rfl ?_
    refine AW.freezeCell 0 0 1 rfl (by decide) rfl rfl ?_
    refine AW.ret (retI (.cellA (i := 0) rfl ag_56 rfl rfl rfl .nil) ?_)
    refine congrArg T.agg ?_
    show [T.sl 5 _, T.sl 1 _, _] = [T.sl 5 _, T.sl 1 _, _]
    rw [zeros_data]
    try rfl
   refine AWL.makeRow (n := 400) (c := 400) rfl rfl (B rfl) rfl el_54 (E rfl rfl) (E rfl rfl) (Nat.le_refl _) (by omega) (by unfold maxLen; omega) (fun A12 => ?_)
   refine AWL.perm (List.perm_append_singleton _ _).symm ?_
   refine AWL.nil (kpH tc0 ?_)
   refine AWH.one (i := 2) (by kernel_rfl) rfl ?_
   refine AWL.buildSliceRow rfl rfl (B rfl) rfl el_53 (B rfl) rfl (evsC (E rfl rfl) evs0) (by decide) rfl rfl (fun A9 => ?_)
   refine AWL.perm (List.perm_append_singleton _ _).symm ?_
   refine AWL.nil (kpH tc0 ?_)
   refine AWH.one (i := 4) (by kernel_rfl) rfl ?_
   refine AWL.appendRow (i := 0) rfl rfl (B rfl) rfl el_53 (B rfl) rfl (E rfl rfl) (SrcT.sl (m := 11) so_53 (B rfl) (E rfl rfl) rfl) (by unfold maxLen; omega) (by omega) (fun A11 c11 => ?_)
   refine AWL.nil (kpH tc0 ?_)
   refine AWH.one (i := 6) (by kernel_rfl) rfl ?_
   refine Y1 (Yv.buildS rfl sh_56 (evpC eV (evpC eV evp0)) (fun _ => rfl)) ?_
   refine AWL.nil (kpH tc0 ?_)
   refine AWH.one (i := 7) (by kernel_rfl) rfl ?_
   refine AWL.storeBox (i := 2) rfl rfl rfl ag_56 rfl (E rfl rfl) (E rfl rfl) rfl rfl nB ?_
   refine AWL.nil (kpH tc0 ?_)
   refine AWH.done (by kernel_rfl) ?_
   refine AW.freezeCell 0 1 0 rfl (by decide) rfl rfl ?_
   refine AW.freezeCell 0 0 1 rfl (by decide) rfl rfl ?_
   refine AW.ret (retI (.cellA (i := 0) rfl ag_56 rfl rfl rfl .nil) ?_)
   refine congrArg T.agg ?_
   show [T.sl 5 _, T.sl 1 _, _] = [T.sl 5 _, T.sl 1 _, _]
   rw [zeros_data]
   try rfl
  refine AWL.makeRow (n := 400) (c := 400) rfl rfl (B rfl) rfl el_54 (E rfl rfl) (E rfl rfl) (Nat.le_refl _) (by omega) (by unfold maxLen; omega) (fun A12 => ?_)
  refine AWL.perm (List.perm_append_singleton _ _).symm ?_
  refine AWL.nil (kpH tc0 ?_)
  refine AWH.two (i := 2) (j := 3) (by kernel_rfl) rfl rfl ?_ ?_
  ·refine AWL.buildSliceRow rfl rfl (B rfl) rfl el_53 (B rfl) rfl (evsC (E rfl rfl) evs0) (by decide) rfl rfl (fun A9 => ?_)
   refine AWL.perm (List.perm_append_singleton _ _).symm ?_
   refine AWL.nil (kpH tc0 ?_)
   refine AWH.one (i := 3) (by kernel_rfl) rfl ?_
   refine AWL.callE rfl rfl (B rfl) rfl ce_36 (E rfl rfl) (evsC (E rfl rfl) evs0) (F1 := [Ent.row A9 1 1 93 5 (([.agg (fnCells fMain)] : List T).flatMap cellsT), Ent.row A12 400 400 5 1 (List.replicate 400 (([.int .u8 0] : List Value).map T.v)).flatten, Ent.box b0 56 (([.slice none 0 0, .slice none 0 0, .int .i64 0] : List Value).map T.v)]) (S1 := []) rfl (cFunctions) ?_
   rintro t10 S10 ⟨rfl, rfl⟩
   refine AWL.nil (kpH tc0 ?_)
   refine AWH.one (i := 4) (by kernel_rfl) rfl ?_
   refine AWL.appendRow (i := 0) rfl rfl (B rfl) rfl el_53 (B rfl) rfl (E rfl rfl) (SrcT.sl (m := 11) so_53 (B rfl) (E rfl rfl) rfl) (by unfold maxLen; omega) (by omega) (fun A11 c11 => ?_)
   refine AWL.nil (kpH tc0 ?_)
   refine AWH.one (i := 6) (by kernel_rfl) rfl ?_
   refine Y1 (Yv.buildS rfl sh_56 (evpC eV (evpC eV evp0)) (fun _ => rfl)) ?_
   refine AWL.nil (kpH tc0 ?_)
   refine AWH.one (i := 7) (by kernel_rfl) rfl ?_
   refine AWL.storeBox (i := 2) rfl rfl rfl ag_56 rfl (E rfl rfl) (E rfl rfl) rfl rfl nB ?_
   refine AWL.nil (kpH tc0 ?_)
   refine AWH.done (by kernel_rfl) ?_
   refine AW.freezeCell 0 1 0 rfl (by decide) rfl rfl ?_
   refine AW.freezeCell 0 0 1 rfl (by decide) rfl rfl ?_
   refine AW.ret (retI (.cellA (i := 0) rfl ag_56 rfl rfl rfl .nil) ?_)
   refine congrArg T.agg ?_
   show [T.sl 5 _, T.sl 1 _, _] = [T.sl 5 _, T.sl 1 _, _]
   rw [zeros_data]
   try rfl
  refine AWL.callE rfl rfl (B rfl) rfl ce_36 (E rfl rfl) (evsC (E rfl rfl) evs0) (F1 := [Ent.row A12 400 400 5 1 (List.replicate 400 (([.int .u8 0] : List Value).map T.v)).flatten, Ent.box b0 56 (([.slice none 0 0, .slice none 0 0, .int .i64 0] : List Value).map T.v)]) (S1 := []) rfl (cFunctions) ?_
  rintro t10 S10 ⟨rfl, rfl⟩
  refine AWL.nil (kpH tc0 ?_)
  refine AWH.one (i := 2) (by kernel_rfl) rfl ?_
  refine AWL.buildSliceRow rfl rfl (B rfl) rfl el_53 (B rfl) rfl (evsC (E rfl rfl) evs0) (by decide) rfl rfl (fun A9 => ?_)
  refine AWL.perm (List.perm_append_singleton _ _).symm ?_
  refine AWL.nil (kpH tc0 ?_)
  refine AWH.one (i := 4) (by kernel_rfl) rfl ?_
  refine AWL.appendRow (i := 0) rfl rfl (B rfl) rfl el_53 (B rfl) rfl (E rfl rfl) (SrcT.sl (m := 11) so_53 (B rfl) (E rfl rfl) rfl) (by unfold maxLen; omega) (by omega) (fun A11 c11 => ?_)
  refine AWL.nil (kpH tc0 ?_)
  refine AWH.one (i := 6) (by kernel_rfl) rfl ?_
  refine Y1 (Yv.buildS rfl sh_56 (evpC eV (evpC eV evp0)) (fun _ => rfl)) ?_
  refine AWL.nil (kpH tc0 ?_)
  refine AWH.one (i := 7) (by kernel_rfl) rfl ?_
  refine AWL.storeBox (i := 2) rfl rfl rfl ag_56 rfl (E rfl rfl) (E rfl rfl) rfl rfl nB ?_
  refine AWL.nil (kpH tc0 ?_)
  refine AWH.done (by kernel_rfl) ?_
  refine AW.freezeCell 0 1 0 rfl (by decide) rfl rfl ?_
  refine AW.freezeCell 0 0 1 rfl (by decide) rfl rfl ?_
  refine AW.ret (retI (.cellA (i := 0) rfl ag_56 rfl rfl rfl .nil) ?_)
  refine congrArg T.agg ?_
  show [T.sl 5 _, T.sl 1 _, _] = [T.sl 5 _, T.sl 1 _, _]
  rw [zeros_data]
  try rfl
 refine AWL.makeRow (n := 400) (c := 400) rfl rfl (B rfl) rfl el_54 (E rfl rfl) (E rfl rfl) (Nat.le_refl _) (by omega) (by unfold maxLen; omega) (fun A12 => ?_)
 refine AWL.perm (List.perm_append_singleton _ _).symm ?_
 refine AWL.nil (kpH tc0 ?_)
 refine AWH.one (i := 1) (by kernel_rfl) rfl ?_
 have hMain : fnB bd2 = fMain := by unfold fMain; rw [show mMain (bd0 [109, 97, 105, 110] 0) = ((), bd2) from (bq e1).trans e2]
 refine AWL.callE rfl rfl (B rfl) rfl ce_35 (E rfl rfl) (evsC (E rfl rfl) evs0) (F1 := [Ent.row A12 400 400 5 1 (List.replicate 400 (([.int .u8 0] : List Value).map T.v)).flatten, Ent.box b0 56 (([.slice none 0 0, .slice none 0 0, .int .i64 0] : List Value).map T.v)]) (S1 := (BdE p bd2 A2 c2)) rfl (cDone p bd2 A2 c2) ?_
 rintro t8 S8 ⟨hD, rfl⟩
 rw [hMain] at hD
 subst hD
 refine AWL.nil (kpH tc0 ?_)
 refine AWH.two (i := 2) (j := 3) (by kernel_rfl) rfl rfl ?_ ?_
 ·refine AWL.buildSliceRow rfl rfl (B rfl) rfl el_53 (B rfl) rfl (evsC (E rfl rfl) evs0) (by decide) rfl rfl (fun A9 => ?_)
  refine AWL.perm (List.perm_append_singleton _ _).symm ?_
  refine AWL.nil (kpH tc0 ?_)
  refine AWH.one (i := 3) (by kernel_rfl) rfl ?_
  refine AWL.callE rfl rfl (B rfl) rfl ce_36 (E rfl rfl) (evsC (E rfl rfl) evs0) (F1 := [Ent.row A9 1 1 93 5 (([.agg (fnCells fMain)] : List T).flatMap cellsT), Ent.row A12 400 400 5 1 (List.replicate 400 (([.int .u8 0] : List Value).map T.v)).flatten, Ent.box b0 56 (([.slice none 0 0, .slice none 0 0, .int .i64 0] : List Value).map T.v)]) (S1 := []) rfl (cFunctions) ?_
  rintro t10 S10 ⟨rfl, rfl⟩
  refine AWL.nil (kpH tc0 ?_)
  refine AWH.one (i := 4) (by kernel_rfl) rfl ?_
  refine AWL.appendRow (i := 0) rfl rfl (B rfl) rfl el_53 (B rfl) rfl (E rfl rfl) (SrcT.sl (m := 11) so_53 (B rfl) (E rfl rfl) rfl) (by unfold maxLen; omega) (by omega) (fun A11 c11 => ?_)
  refine AWL.nil (kpH tc0 ?_)
  refine AWH.one (i := 6) (by kernel_rfl) rfl ?_
  refine Y1 (Yv.buildS rfl sh_56 (evpC eV (evpC eV evp0)) (fun _ => rfl)) ?_
  refine AWL.nil (kpH tc0 ?_)
  refine AWH.one (i := 7) (by kernel_rfl) rfl ?_
  refine AWL.storeBox (i := 2) rfl rfl rfl ag_56 rfl (E rfl rfl) (E rfl rfl) rfl rfl nB ?_
  refine AWL.nil (kpH tc0 ?_)
  refine AWH.done (by kernel_rfl) ?_
  refine AW.freezeCell 0 1 0 rfl (by decide) rfl rfl ?_
  refine AW.freezeCell 0 0 1 rfl (by decide) rfl rfl ?_
  refine AW.ret (retI (.cellA (i := 0) rfl ag_56 rfl rfl rfl .nil) ?_)
  refine congrArg T.agg ?_
  show [T.sl 5 _, T.sl 1 _, _] = [T.sl 5 _, T.sl 1 _, _]
  rw [zeros_data]
  try rfl
 refine AWL.callE rfl rfl (B rfl) rfl ce_36 (E rfl rfl) (evsC (E rfl rfl) evs0) (F1 := [Ent.row A12 400 400 5 1 (List.replicate 400 (([.int .u8 0] : List Value).map T.v)).flatten, Ent.box b0 56 (([.slice none 0 0, .slice none 0 0, .int .i64 0] : List Value).map T.v)]) (S1 := []) rfl (cFunctions) ?_
 rintro t10 S10 ⟨rfl, rfl⟩
 refine AWL.nil (kpH tc0 ?_)
 refine AWH.one (i := 2) (by kernel_rfl) rfl ?_
 refine AWL.buildSliceRow rfl rfl (B rfl) rfl el_53 (B rfl) rfl (evsC (E rfl rfl) evs0) (by decide) rfl rfl (fun A9 => ?_)
 refine AWL.perm (List.perm_append_singleton _ _).symm ?_
 refine AWL.nil (kpH tc0 ?_)
 refine AWH.one (i := 4) (by kernel_rfl) rfl ?_
 refine AWL.appendRow (i := 0) rfl rfl (B rfl) rfl el_53 (B rfl) rfl (E rfl rfl) (SrcT.sl (m := 11) so_53 (B rfl) (E rfl rfl) rfl) (by unfold maxLen; omega) (by omega) (fun A11 c11 => ?_)
 refine AWL.nil (kpH tc0 ?_)
 refine AWH.one (i := 6) (by kernel_rfl) rfl ?_
 refine Y1 (Yv.buildS rfl sh_56 (evpC eV (evpC eV evp0)) (fun _ => rfl)) ?_
 refine AWL.nil (kpH tc0 ?_)
 refine AWH.one (i := 7) (by kernel_rfl) rfl ?_
 refine AWL.storeBox (i := 2) rfl rfl rfl ag_56 rfl (E rfl rfl) (E rfl rfl) rfl rfl nB ?_
 refine AWL.nil (kpH tc0 ?_)
 refine AWH.done (by kernel_rfl) ?_
 refine AW.freezeCell 0 1 0 rfl (by decide) rfl rfl ?_
 refine AW.freezeCell 0 0 1 rfl (by decide) rfl rfl ?_
 refine AW.ret (retI (.cellA (i := 0) rfl ag_56 rfl rfl rfl .nil) ?_)
 refine congrArg T.agg ?_
 show [T.sl 5 _, T.sl 1 _, _] = [T.sl 5 _, T.sl 1 _, _]
 rw [zeros_data]
 try rfl

theorem cProgram : ACalls Tryz.prog 18 [] [] (fun t S => t = .agg (progCells gcP) ∧ S = []) := cProgram_.less fun t S' h => ⟨[], List.nil_sublist _, h, rfl⟩
end Go.Proofs.YtpgbpdnmjeoeoaaGreat.B

namespace Go.Proofs.YtpgbpdnmjeoeoaaGreat.G
open Go Go.RowKit
def entM (m : Mc) (n : Nat) (args : List Wd64) : Mc := { m with c := { m.c with ent := true, st := 0, ans := 0#64, code := 0 }, x := openFr (m.c.prog.funs.getD n default) (n : Int) args 0, bl := [] }
theorem fname_at {l : List Fn} {j : Nat} (h : j < l.length) : (l.flatMap fnCells)[j * 5 + 0]? = some (sv (l.getD j default).name) := flat_at fk h 0 (by decide)
theorem dropE {a r : Ent} {F M K X : St} : (a :: (M ++ X)).Sublist (([a, r] ++ F) ++ (M ++ (K ++ X))) := by
 refine List.Sublist.cons_cons a ?_
 refine List.Sublist.cons r ?_
 refine List.Sublist.trans ?_ (List.sublist_append_right F _)
 exact (List.sublist_append_right K X).append_left M
theorem permE {a r : Ent} {X : St} : (a :: r :: X).Perm ((a :: X) ++ [r]) := ((List.perm_append_singleton r X).symm).cons a
theorem fn_regsG {p : Prog} {f : Nat} (hp : ProgOk p) (hf : f < p.funs.length) : 0 ≤ (p.funs.getD f default).regs ∧ (p.funs.getD f default).regs ≤ 65536 ∧ 0 ≤ (p.funs.getD f default).slots ∧ (p.funs.getD f default).slots ≤ 1048576 := by
 have h := hp.fn _ (getD_mem hf)
 have := h.par0
 have := h.par2
 exact ⟨by omega, h.regs, h.slot0, h.slot1⟩
theorem entM_ok {p : Prog} {m : Mc} (hp : ProgOk p) (hm : m.c.prog = p) {n : Nat} (hn : n < p.funs.length) {args : List Wd64} (ha : (args.length : Int) = (p.funs.getD n default).params) : MOk p (entM m n args) := by
 refine ⟨hm, ?_, fun y hy => (by cases hy), trivial, by show 0 < 1048576; decide⟩
 show FrIn p (openFr (m.c.prog.funs.getD n default) (n : Int) args 0)
 rw [hm]
 exact FrIn.open hp hn ha 0
def mostF (h : Wd64) : Int := 4000 + 40 * ((h / 8#64).toNat : Int)
theorem most_b {h : Wd64} (hh : h.toNat ≤ 1099511627776) : (h / 8#64).toNat ≤ 137438953472 := by
 rw [BitVec.toNat_udiv, show (8#64 : Wd64).toNat = 8 from rfl]
 omega
theorem nilW : Le (.v (.slice none 0 0)) (.sl 1 (([] : List Wd64).map zw)) := fun w L u h => by cases h; exact .sl0 (Nat.zero_le _)
end Go.Proofs.YtpgbpdnmjeoeoaaGreat.G

namespace Go.Proofs.YtpgbpdnmjeoeoaaGreat.G
open Go Go.RowKit

set_option maxHeartbeats 8000000 in
theorem Enter25_ (L : DLay) (p : Prog) (hp : ProgOk p) (hpi : ProgIn p) (m : Mc) (q : DQ) (hpr : m.c.prog = p) (name : List UInt8) (args : List Wd64) (n : Nat) (hn : n < p.funs.length) (hnm : (p.funs.getD n default).name = name) (hno : ∀ j, j < n → (p.funs.getD j default).name ≠ name) (ha : (args.length : Int) = (p.funs.getD n default).params) (hal : args.length ≤ 65536) :
    ACalls Tryz.prog 25 [.v (.pointer (some ⟨L.s, 0, none⟩)), sv name, .sl 1 (args.map zw)] (DP L m q) (fun t S => t = zi 0 ∧ ∃ g c a, S = DP L (entM m n args) ⟨g, c, a, [], q.l, q.ds, q.ob⟩) := by
 have hfr := fn_regsG hp hn
 have hpl := hpi.funs
 have hpm : (m.c.prog.funs.getD n default).params = (args.length : Int) := by rw [hpr]; exact ha.symm
 have hml : m.c.prog.funs.length = p.funs.length := by rw [hpr]
 have hfu : (psLD L m.c).prog.funs = p.funs := by show m.c.prog.funs = _; rw [hpr]
 refine ACalls.intro Tryz.func25 rfl Tryz.ntmps25 nB rfl fun X w0 => ?_
 refine ra ?_
 refine AW.seq ?_
 refine ra ?_
 refine AW.block ?_
 refine AW.loop (fun (j : Nat) => [(0, true, .v (.pointer (some ⟨L.s, 0, none⟩))), (1, true, sv name), (2, true, .sl 1 (args.map zw)), (7, true, zi (j : Int))]) (fun (j : Nat) => (([Ent.box L.s 75 (psD (psLD L m.c) q.ob (.v (.slice (some ⟨q.g, 0, none⟩) (q.K.length + 1) q.c))), Ent.row (some ⟨q.g, 0, none⟩) (q.K.length + 1) q.c 116 7 (rowD q.K ++ frD m.x q.a)] ++ frE m.x q.a) ++ (memD L q.l q.ds ++ (rowsF q.K ++ labF L m.c.prog)))) (fun (j : Nat) => j ≤ n) (fun (j : Nat) => n - j) 0 ?_ ?_ ?_ ?_
 ·exact Nat.zero_le _
 ·exact (su (su (su (su sn))))
 ·rfl
 intro j hinv
 have hjl : j < (psLD L m.c).prog.funs.length := by rw [hfu]; omega
 have hjn : (psLD L m.c).prog.funs.getD j default = p.funs.getD j default := by rw [hfu]
 refine AW.seq ?_
 refine rs (ym ?_)
 refine ym ?_
 refine Y1 (Yv.nilChk rfl eV) ?_
 refine yf fo_75_0 ?_
 refine yf fo_56_0 ?_
 refine yl ag_53 0 ?_
 refine Y1 (Yv.lenSl rfl so_53 (B rfl) eV len_funs) ?_
 refine Y1 (Yv.lss rfl eV eV) (nl ?_)
 refine AW.cond rfl (fun h0t => ?_) (fun h0f => ?_)
 ·try replace h0t := odt h0t
  refine AW.skip ?_
  refine AW.seq ?_
  refine AW.block ?_
  refine AW.seq ?_
  refine rs (ym ?_)
  refine Y1 (Yv.nilChk rfl eV) ?_
  refine yf fo_75_0 ?_
  refine yf fo_56_0 ?_
  refine yl ag_53 0 ?_
  refine ym ?_
  refine Y1 (Yv.indexSl rfl ss_53 (B rfl) eV eV (fun hg => ⟨rfl, (by first | omega | (simp only [len_funs, len_zw]; omega))⟩)) ?_
  refine Y1 (Yv.fieldRp rfl fo_93_0 eV) ?_
  refine Y1 (Yv.loadRp rfl ag_9 eV (fun hg => fname_at (by omega))) ?_
  refine ym ?_
  refine Y1 (Yv.neqL rfl eV eV) (nl ?_)
  refine AW.cond rfl (fun h1t => ?_) (fun h1f => ?_)
  ·try replace h1t := odt h1t
   replace h1t : ¬ ((psLD L m.c).prog.funs.getD j default).name = name := by simpa using h1t
   refine AW.exit ?_
   refine AW.region ?_
   refine ym ?_
   refine Y1 (Yv.addN_i64 rfl eV eV (fun hg => by omega)) ?_
   refine ya ?_
   have hlt : j < n := by
    rcases Nat.lt_or_ge j n with h | h
    ·exact h
    ·exfalso
     have e : j = n := by omega
     subst e
     apply h1t
     rw [hjn]; exact hnm
   refine ⟨j + 1, by omega, by omega, (su (su (su (su sn)))), rfl⟩
  try replace h1f := odf h1f
  replace h1f : ((psLD L m.c).prog.funs.getD j default).name = name := by simpa using h1f
  have hjj : j = n := by
   rcases Nat.lt_or_ge j n with h | h
   ·exact absurd (by rw [← hjn]; exact h1f) (hno j h)
   ·omega
  subst hjj
  refine AW.skip ?_
  refine AW.seq ?_
  refine rs (ym ?_)
  refine Y1 (Yv.nilChk rfl eV) ?_
  refine yf fo_75_0 ?_
  refine yf fo_56_0 ?_
  refine yl ag_53 0 ?_
  refine ym ?_
  refine Y1 (Yv.indexSl rfl ss_53 (B rfl) eV eV (fun hg => ⟨rfl, (by first | omega | (simp only [len_funs, len_zw]; omega))⟩)) ?_
  refine Y1 (Yv.fieldRp rfl fo_93_1 eV) ?_
  refine Y1 (Yv.loadRp rfl ag_3 eV (fun hg => fpar_at (by omega))) ?_
  refine ym ?_
  refine Y1 (Yv.lenSl rfl so_32 (B rfl) eV len_zw) ?_
  refine Y1 (Yv.neq rfl eV eV) (nl ?_)
  refine AW.cond rfl (fun h2t => ?_) (fun h2f => ?_)
  ·try replace h2t := odt h2t
   exfalso; simp only [Bool.not_eq_true', decide_eq_false_iff_not] at h2t; apply h2t; rw [hjn]; exact ha.symm
  try replace h2f := odf h2f
  have hjE : (psLD L (entM m j args).c).prog.funs.getD j default = p.funs.getD j default := by
   show m.c.prog.funs.getD j default = _
   rw [hpr]
  refine AW.skip ?_
  refine rs (ym ?_)
  refine Y1 (Yv.nilChk rfl eV) ?_
  refine yf fo_75_6 ?_
  refine AWL.storeBox (i := 0) rfl rfl rfl ag_73 rfl (E rfl rfl) (E rfl rfl) rfl rfl nB (nl ?_)
  refine rs (ym ?_)
  refine Y1 (Yv.nilChk rfl eV) ?_
  refine yf fo_75_7 ?_
  refine AWL.storeBox (i := 0) rfl rfl rfl ag_4 rfl (E rfl rfl) (E rfl rfl) rfl rfl nB (nl ?_)
  refine rs (ym ?_)
  refine Y1 (Yv.nilChk rfl eV) ?_
  refine yf fo_75_8 ?_
  refine AWL.storeBox (i := 0) rfl rfl rfl ag_3 rfl (E rfl rfl) (E rfl rfl) rfl rfl nB (nl ?_)
  refine rs (ym ?_)
  refine Y1 (Yv.nilChk rfl eV) ?_
  refine yf fo_75_9 ?_
  refine AWL.storeBox (i := 0) rfl rfl rfl ag_22 rfl (E rfl rfl) (E rfl rfl) rfl rfl nB (nl ?_)
  refine rs (ym ?_)
  refine Y1 (Yv.nilChk rfl eV) ?_
  refine yf fo_75_10 ?_
  refine AWL.storeBox (i := 0) rfl rfl rfl ag_3 rfl (E rfl rfl) (E rfl rfl) rfl rfl nB (nl ?_)
  refine AW.drop (S' := Ent.box L.s 75 (psD (psLD L (entM m j args).c) q.ob (.v (.slice none 0 0))) :: (memD L q.l q.ds ++ labF L m.c.prog)) dropE ?_
  refine AW.rowNil 116 7 ?_
  refine AW.perm (S' := [Ent.box L.s 75 (psD (psLD L (entM m j args).c) q.ob (.v (.slice none 0 0))), Ent.row none 0 0 116 7 []] ++ (memD L q.l q.ds ++ labF L m.c.prog)) permE ?_
  refine rs (ym ?_)
  refine ym ?_
  refine ym ?_
  refine AWL.callF rfl rfl (B rfl) rfl ce_40 (E rfl rfl) (evsC (E rfl rfl) (evsC (E rfl rfl) (evsC (E rfl rfl) (evsC (E rfl rfl) evs0)))) (F1 := []) (S1 := [Ent.box L.s 75 (psD (psLD L (entM m j args).c) q.ob (.v (.slice none 0 0))), Ent.row none 0 0 116 7 []]) (F2 := (memD L q.l q.ds ++ labF L m.c.prog)) rfl (Dopen43 L.s (psLD L (entM m j args).c) q.ob j args 0 none 0 0 [] hjl (by show m.c.prog.funs.length ≤ _; omega) (by rw [hjE]; exact hfr.1) (by rw [hjE]; exact hfr.2.1) (by rw [hjE]; exact hfr.2.2.1) (by rw [hjE]; exact hfr.2.2.2) (by rw [hjE]; have := (hp.fn _ (getD_mem hn)).par2; omega) (Nat.zero_le _)) ?_
  rintro t59 S59 ⟨rfl, g, c', a, rfl⟩
  refine nl ?_
  refine ra ?_
  refine AW.ret (retI (.tmp rfl .nil) ?_)
  exact ⟨rfl, g, c', a, rfl⟩
 try replace h0f := odf h0f
 exfalso; omega

set_option maxHeartbeats 400000 in
theorem Most27 (h : Wd64) (hh : h.toNat ≤ 1099511627776) :
    ACalls Tryz.prog 27 [zw h] [] (fun t S => t = zi (mostF h)) := by
 have hb := most_b hh
 refine ACalls.intro Tryz.func27 rfl Tryz.ntmps27 nB rfl fun X w0 => ?_
 refine ra ?_
 refine rs (ym ?_)
 refine Y1 (Yv.quoW (b := 8#64) rfl (E rfl rfl) (E rfl rfl) (by decide)) ?_
 refine Y1 (Yv.convN_i64 rfl Tryz.underlying22 kd_3 eV (fun hg => by omega)) ?_
 refine Y1 (Yv.mulN_i64 rfl eV eV (fun hg => by omega)) ?_
 refine Y1 (Yv.addN_i64 rfl eV eV (fun hg => by omega)) ?_
 refine ya ?_
 refine AW.ret (retI (.tmp rfl .nil) ?_)
 rfl

end Go.Proofs.YtpgbpdnmjeoeoaaGreat.G

namespace Go.Proofs.YtpgbpdnmjeoeoaaGreat.G
open Go Go.RowKit B
set_option maxRecDepth 100000
theorem gc_check : checkR gcP = 0 := by kernel_rfl
theorem gc_ok : ProgOk gcP := check_good gc_check
theorem gc_z : psData gcP = 400#64 := by kernel_rfl
theorem gc_len : gcP.funs.length = 12 := by kernel_rfl
section
variable {RF : Int → Wd64 → Wd64 → Wd64} {P : Prog} {h : Wd64} {e b : Bool} {w : V.PW} {s s' : Sy} {m : Mc} {obs : List Ob}
theorem srun_w (hz : psData P = 400#64) : ∀ {n : Nat} {bs : List Bool} {s s' : Sy} {acc obs : List Ob} {m : Mc}, Is P h e w s m → srun P h bs n s acc = some (s', obs) → (∀ o ∈ obs, o.ok) → ∀ j, j ≤ n → (runM RF j m).w = w
 | _, _, _, _, _, _, m, hm, _, _, 0, _ => hm.w
 | 0, _, _, _, _, _, m, hm, _, _, j + 1, hj => absurd hj (by omega)
 | n + 1, bs, s, s', acc, obs, m, hm, hr, ho, j + 1, hj => by
  rw [srun] at hr
  split at hr
  ·rename_i s2 h2
   obtain ⟨m1, r1, i1⟩ := sstep_ok (RF := RF) hz hm h2 (fun _ q => by cases q)
   rw [r1]
   exact srun_w hz i1 hr ho j (by omega)
  ·rename_i s2 obs2 _ h2
   obtain ⟨m1, r1, i1⟩ := sstep_ok (RF := RF) hz hm h2 (fun o q => ho o (srun_acc hr o (List.mem_append.2 (.inl q))))
   rw [r1]
   exact srun_w hz i1 hr ho j (by omega)
  ·cases hr
structure Ended (P : Prog) (h : Wd64) (w : V.PW) (c : Nat → Wd64) (v : Wd64) (m : Mc) : Prop where
 prog : m.c.prog = P
 heap : m.c.heap = h
 strict : m.c.strict = false
 st : m.c.st = 3
 ans : m.c.ans = v
 w : m.w = w
 c : Cells c m.mem
theorem ret_end (hm : Is P h true w s m) (hk : (insS P s.top).kind = 26) {v : SV} (hv : kn (insS P s.top).a.toNat s.top.ρ = some v) (hb : s.bl = []) : ∃ m', (∀ N, runM RF (N + 1) m = m') ∧ Ended P h w s.c v.val m' := by
 have hx := (adv_is hm).1
 have hA := hm.top.go (atS P s.top)
 rw [← hx] at hA
 obtain ⟨a1, a2⟩ := hA.rd hv
 have hbl := hm.bl
 rw [hb] at hbl
 cases hml : m.bl with
 | cons z l => rw [hml] at hbl; exact hbl.elim
 | nil =>
  have hst : stepM RF (advM m) (insS P s.top) = some { advM m with c := { m.c with st := 3, ans := v.val }, bl := [] } := by
   rw [stepB (by rw [rd_a (by rw [hk]; exact ⟨rfl, rfl, rfl⟩)]; exact ok_a a2) hk, a1]
   unfold backM
   rw [show (advM m).bl = [] from hml]
   unfold backC
   rw [if_pos (show (advM m).c.ent = true from hm.ent)]
   rfl
  refine ⟨tickC { advM m with c := { m.c with st := 3, ans := v.val }, bl := [] }, fun N => ?_, ⟨hm.prog, hm.heap, hm.strict, rfl, rfl, hm.w, hm.c⟩⟩
  rw [runM, if_neg (fun q => q hm.st), (adv_is hm).2, hst]
  exact runM_stop (show (3 : Int) ≠ 0 by decide) N
end
/-! ### entered -/
theorem ent_is {h : Wd64} {w : V.PW} {m : Mc} {c : Nat → Wd64} (hp : m.c.prog = gcP) (hh : m.c.heap = h) (hs : m.c.strict = false) (hw : m.w = w) (hc : Cells c m.mem) {n : Nat} {vs : List SV} (hl : vs.length ≤ (fnS gcP n).regs.toNat) : Is gcP h true w ⟨⟨n, 0, argsR 0 vs, 0⟩, [], c⟩ (entM m n (vs.map SV.val)) := by
 refine ⟨hp, hh, hs, rfl, rfl, hw, ?_, trivial, hc⟩
 show FrIs gcP (openFr (m.c.prog.funs.getD n default) (n : Int) (vs.map SV.val) 0) _
 rw [hp]
 exact open_is hl 0
/-! ### gc.start -/
def stS (h : Wd64) (b : Bool) (c : Nat → Wd64) : Option (Sy × List Ob) := srun gcP h [b] (bif b then 89 else 90) ⟨⟨1, 0, [], 0⟩, [], c⟩ []
def cellS (r : Option (Sy × List Ob)) (k : Nat) : Wd64 := match r with | some (s, _) => s.c k | none => 0
def symS (r : Option (Sy × List Ob)) : Sy := match r with | some (s, _) => s | none => ⟨⟨0, 0, [], 0⟩, [], fun _ => 0⟩
def prt (h : Wd64) : Wd64 := (h >>> (7#64 &&& 63#64).toNat) <<< (3#64 &&& 63#64).toNat
def held (h : Wd64) : Wd64 := prt h <<< (1#64 &&& 63#64).toNat
def botW (h : Wd64) : Wd64 := (((1073741824#64 + prt h * 2#64) + prt h * 4#64) + prt h * 4#64) + prt h * 2#64 + 64#64
def endW (h : Wd64) (b : Bool) : Wd64 := botW h + (bif b then held h else 16777216#64)
theorem st_some (h : Wd64) (b : Bool) (c : Nat → Wd64) : stS h b c = some (symS (stS h b c), [⟨4, held h, 16777216#64, b⟩]) := by
 cases b <;> kernel_rfl
theorem st_kind (h : Wd64) (b : Bool) (c : Nat → Wd64) : (insS gcP (symS (stS h b c)).top).kind = 26 ∧ kn (insS gcP (symS (stS h b c)).top).a.toNat (symS (stS h b c)).top.ρ = some (.wd 1#64) ∧ (symS (stS h b c)).bl = [] := by
 cases b <;> exact ⟨by kernel_rfl, by kernel_rfl, by kernel_rfl⟩
theorem st_cells (h : Wd64) (b : Bool) (c : Nat → Wd64) : (symS (stS h b c)).c 0 = botW h ∧ (symS (stS h b c)).c 1 = botW h ∧ (symS (stS h b c)).c 2 = endW h b ∧ (symS (stS h b c)).c 3 = 1#64 ∧ (∀ k, k < 8 → (symS (stS h b c)).c (4 + 2 * k) = 16777227#64 ∧ (symS (stS h b c)).c (5 + 2 * k) = 1#64) := by
 cases b <;> refine ⟨by kernel_rfl, by kernel_rfl, by kernel_rfl, by kernel_rfl, fun k hk => ?_⟩ <;>
  (match k, hk with
   | 0, _ => exact ⟨by kernel_rfl, by kernel_rfl⟩
   | 1, _ => exact ⟨by kernel_rfl, by kernel_rfl⟩
   | 2, _ => exact ⟨by kernel_rfl, by kernel_rfl⟩
   | 3, _ => exact ⟨by kernel_rfl, by kernel_rfl⟩
   | 4, _ => exact ⟨by kernel_rfl, by kernel_rfl⟩
   | 5, _ => exact ⟨by kernel_rfl, by kernel_rfl⟩
   | 6, _ => exact ⟨by kernel_rfl, by kernel_rfl⟩
   | 7, _ => exact ⟨by kernel_rfl, by kernel_rfl⟩
   | (n + 8), q => exact absurd q (by omega))
theorem heap_n {h : Wd64} (hh : h.toNat ≤ 1099511627776) : (prt h).toNat = h.toNat / 128 * 8 := by
 have e1 : (7#64 &&& 63#64 : Wd64).toNat = 7 := rfl
 have e2 : (3#64 &&& 63#64 : Wd64).toNat = 3 := rfl
 unfold prt
 rw [e1, e2, BitVec.toNat_shiftLeft, BitVec.toNat_ushiftRight, Nat.shiftRight_eq_div_pow, Nat.shiftLeft_eq]
 omega
theorem held_n {h : Wd64} (hh : h.toNat ≤ 1099511627776) : (held h).toNat = h.toNat / 128 * 16 := by
 have e1 : (1#64 &&& 63#64 : Wd64).toNat = 1 := rfl
 unfold held
 rw [e1, BitVec.toNat_shiftLeft, heap_n hh, Nat.shiftLeft_eq]
 omega
theorem bot_n {h : Wd64} (hh : h.toNat ≤ 1099511627776) : (botW h).toNat = 1073741824 + 12 * (h.toNat / 128 * 8) + 64 := by
 unfold botW
 have e := heap_n hh
 simp only [BitVec.toNat_add, BitVec.toNat_mul, BitVec.toNat_ofNat, e]
 omega
def smallB (h : Wd64) : Bool := holdsF 4 (held h) 16777216#64
theorem small_n {h : Wd64} (hh : h.toNat ≤ 1099511627776) : smallB h = decide (h.toNat / 128 * 16 ≤ 16777216) := by
 have e := held_n hh
 unfold smallB holdsF sI
 rw [if_neg (by decide), if_neg (by decide), if_neg (by decide), if_pos rfl, e]
 have h1 : IntKind.i64.wrap ((h.toNat / 128 * 16 : Nat) : Int) = ((h.toNat / 128 * 16 : Nat) : Int) := IntWalk.i64_in _ ⟨by omega, by omega⟩
 have h2 : IntKind.i64.wrap (((16777216#64 : Wd64).toNat : Nat) : Int) = 16777216 := by decide
 rw [h1, h2]
 apply decide_eq_decide.2
 omega
theorem end_n {h : Wd64} (hh : h.toNat ≤ 1099511627776) : (endW h (smallB h)).toNat = (botW h).toNat + min (h.toNat / 128 * 16) 16777216 := by
 have e := held_n hh
 have e2 := bot_n hh
 unfold endW
 rw [BitVec.toNat_add, small_n hh]
 by_cases q : h.toNat / 128 * 16 ≤ 16777216
 ·rw [decide_eq_true q, cond_true, e, Nat.min_eq_left q, e2]; omega
 rw [decide_eq_false q, cond_false, Nat.min_eq_right (by omega), e2]
 show (_ + 16777216) % 2 ^ 64 = _
 omega
theorem start_run {h : Wd64} {w : V.PW} {m : Mc} {c : Nat → Wd64} (hp : m.c.prog = gcP) (hh : m.c.heap = h) (hs : m.c.strict = false) (hw : m.w = w) (hc : Cells c m.mem) :
    ∃ mR, (∀ N, 91 ≤ N → runM realF N (entM m 1 []) = mR) ∧ (∀ j, (runM realF j (entM m 1 [])).w = w) ∧ Ended gcP h w (symS (stS h (smallB h) c)).c 1#64 mR := by
 have hi : Is gcP h true w ⟨⟨1, 0, [], 0⟩, [], c⟩ (entM m 1 []) := ent_is (vs := []) hp hh hs hw hc (Nat.zero_le _)
 have hr := st_some h (smallB h) c
 have ho : ∀ o ∈ ([⟨4, held h, 16777216#64, smallB h⟩] : List Ob), o.ok := fun o q => by
  rw [List.mem_singleton.1 q]; rfl
 obtain ⟨m1, r1, i1⟩ := srun_ok (RF := realF) gc_z hi hr ho
 obtain ⟨k1, k2, k3⟩ := st_kind h (smallB h) c
 obtain ⟨mR, r2, e2⟩ := ret_end (RF := realF) i1 k1 k2 k3
 have hn : (bif smallB h then 89 else 90 : Nat) ≤ 90 := by cases smallB h <;> decide
 have hend : ∀ N, (bif smallB h then 89 else 90 : Nat) < N → runM realF N (entM m 1 []) = mR := fun N hN => by
  rw [show N = (N - (bif smallB h then 89 else 90 : Nat) - 1 + 1) + (bif smallB h then 89 else 90 : Nat) by omega, r1, r2]
 refine ⟨mR, fun N hN => hend N (by omega), fun j => ?_, e2⟩
 by_cases q : j ≤ (bif smallB h then 89 else 90 : Nat)
 ·exact srun_w gc_z hi hr ho j q
 rw [hend j (by omega)]; exact e2.w
end Go.Proofs.YtpgbpdnmjeoeoaaGreat.G

namespace Go.Proofs.YtpgbpdnmjeoeoaaGreat.G
open Go Go.RowKit B
set_option maxRecDepth 100000
def insB (i : Ins) : Bool := decide (-9223372036854775808 ≤ i.imm) && decide (i.imm ≤ 9223372036854775807) && decide (i.args.length ≤ 1048576)
def fnInB (f : Fn) : Bool := decide (-9223372036854775808 ≤ f.regs) && decide (f.regs ≤ 9223372036854775807) && decide (f.code.length ≤ 1048576) && f.code.all insB
theorem gc_fns : gcP.funs.all fnInB = true := by kernel_rfl
theorem gc_sum : decide ((gcP.funs.map fun f => f.code.length).sum ≤ 1048576) = true := by kernel_rfl
theorem gc_in : ProgIn gcP := by
 refine ⟨by rw [gc_len]; decide, by show (List.replicate 400 (0 : UInt8)).length ≤ _; rw [List.length_replicate]; decide, fun f hf => ?_, of_decide_eq_true gc_sum, by decide, by decide⟩
 have h := List.all_eq_true.1 gc_fns f hf
 unfold fnInB at h
 simp only [Bool.and_eq_true, decide_eq_true_eq, List.all_eq_true] at h
 obtain ⟨⟨⟨h1, h2⟩, h3⟩, h4⟩ := h
 refine ⟨h1, h2, h3, fun i hi => ?_⟩
 have g := h4 i hi
 unfold insB at g
 simp only [Bool.and_eq_true, decide_eq_true_eq] at g
 exact ⟨g.1.1, g.1.2, g.2⟩
def w00 : V.PW := ⟨[], [], V.opn0, []⟩
theorem side00 {ds : V.DS} (h1 : ds.stdin = []) (h2 : ds.opn = V.opn0) (h3 : ds.trace = []) (h4 : V.NI (V.nF []) (ds.files.map V.nb)) : V.Side w00 (V.pl ds) :=
 ⟨h1, h2, h3, h4.perm, h4.srt⟩
theorem rp00 : V.RP 549755813888 w00 := by
 refine ⟨⟨rfl, Nat.zero_le _, fun x hx => (by cases hx), fun f hf => (by cases hf), fun d hd => ?_, Nat.zero_le _, Nat.zero_le _⟩, ⟨rfl, fun d hd q => ?_⟩, List.nodup_nil, fun f hf => (by cases hf)⟩
 ·rw [(show ∀ d ∈ V.opn0, d.place = 0 by decide) d hd]; exact Nat.zero_le _
 exact absurd q ((show ∀ d ∈ V.opn0, ¬ (d.kind = 4 ∨ d.kind = 5) by decide) d hd)
def wordM (m : Mc) (a : Wd64) : Wd64 := if (sizeOk 8 && thereF (psData m.c.prog) m.c.heap a (wI 8)) = true then leF m.mem a 8 else 0#64
theorem permL {a r : Ent} {F M D X : St} : (([a, r] ++ F) ++ ((M ++ D) ++ X)).Perm ((a :: M) ++ ((r :: F) ++ (D ++ X))) := by
 show (a :: (r :: F ++ ((M ++ D) ++ X))).Perm (a :: (M ++ ((r :: F) ++ (D ++ X))))
 refine List.Perm.cons a ?_
 rw [List.append_assoc M D X]
 exact List.perm_append_comm_assoc _ _ _
theorem DLoadP {L : DLay} {p : Prog} {m : Mc} {q : DQ} (hp : ProgOk p) (hpi : ProgIn p) (hpr : m.c.prog = p) (hq : DRel m q) (a : Wd64) :
    ACalls Tryz.prog 22 [.v (.pointer (some ⟨L.s, 0, none⟩)), zw a, zi 8] (DP L m q) (fun t S => t = .tup [zw (wordM m a), bv (sizeOk 8 && thereF (psData m.c.prog) m.c.heap a (wI 8))] ∧ S = DP L m q) := by
 have h := DLoad20 L.s L.pg (psLD L m.c) q.ob (.v (.slice (some ⟨q.g, 0, none⟩) (q.K.length + 1) q.c)) q.l rfl hq.ok (by show m.c.prog.data.length ≤ _; rw [hpr]; exact hpi.data) (by show 0 ≤ m.c.prog.zero; rw [hpr]; exact hp.zero.1) (by show m.c.prog.zero ≤ _; rw [hpr]; exact hp.zero.2) a 8
 have e : (if (sizeOk 8 && thereF (psData (psLD L m.c).prog) (psLD L m.c).heap a (wI 8)) = true then leF (getM q.l) a (8 : Int).toNat else 0#64) = wordM m a := by
  unfold wordM; rw [hq.mem]; rfl
 rw [e] at h
 exact ACalls.keepIn _ h permL
theorem word_cell {h : Wd64} {w : V.PW} {c : Nat → Wd64} {v : Wd64} {m : Mc} (he : Ended gcP h w c v m) (k : Nat) (hk : k < 50) : wordM m (268435456#64 + wI ((8 * k : Nat) : Int)) = c k := by
 unfold wordM
 rw [he.prog, th_cell gc_z (8 * k) (by omega) (by omega)]
 exact (if_pos (show (sizeOk 8 && true) = true from rfl)).trans (he.c k hk)
theorem wordM_end {m mR : Mc} (h : DEnd m mR) (a : Wd64) : wordM m a = wordM mR a := by
 rcases h with rfl | ⟨_, at_, rfl⟩
 ·rfl
 rfl
theorem c_end {m mR : Mc} (h : DEnd m mR) : m.c = mR.c := by
 rcases h with rfl | ⟨_, at_, rfl⟩ <;> rfl
end Go.Proofs.YtpgbpdnmjeoeoaaGreat.G

namespace Go.Proofs.YtpgbpdnmjeoeoaaGreat.G
open Go Go.RowKit

set_option maxHeartbeats 400000 in
theorem Word8 (L : DLay) (p : Prog) (hp : ProgOk p) (hpi : ProgIn p) (m : Mc) (q : DQ) (hpr : m.c.prog = p) (hq : DRel m q) (a : Wd64) :
    ACalls Tryz.prog 8 [.v (.pointer (some ⟨L.s, 0, none⟩)), zw a] (DP L m q) (fun t S => t = zw (wordM m a) ∧ S = DP L m q) := by
 refine ACalls.intro Tryz.func8 rfl Tryz.ntmps8 nB rfl fun X w0 => ?_
 refine ra ?_
 refine rs (ym ?_)
 refine ym ?_
 refine AWL.callAll rfl rfl (B rfl) rfl ce_22 (E rfl rfl) (evsC (E rfl rfl) (evsC (E rfl rfl) (evsC (E rfl rfl) evs0))) (DLoadP hp hpi hpr hq a) ?_
 rintro t10 S10 ⟨rfl, rfl⟩
 refine ym ?_
 refine Y1 (Yv.extract rfl eV rfl) ?_
 refine Y1 (Yv.extract rfl eV rfl) ?_
 refine Y1 (Yv.assign rfl eV) ?_
 refine ya ?_
 refine rs (ym ?_)
 refine ya ?_
 refine AW.ret (retI (.tmp rfl .nil) ?_)
 exact ⟨rfl, rfl⟩

set_option maxHeartbeats 4000000 in
theorem Call13 (L : DLay) (p : Prog) (hp : ProgOk p) (hpi : ProgIn p) (m : Mc) (q : DQ) (hpr : m.c.prog = p) (hq : DRel m q) (hbs : L.bs.length = p.funs.length) (name : List UInt8) (args : List Wd64) (n : Nat) (hn : n < p.funs.length) (hnm : (p.funs.getD n default).name = name) (hno : ∀ j, j < n → (p.funs.getD j default).name ≠ name) (ha : (args.length : Int) = (p.funs.getD n default).params) (hal : args.length ≤ 65536) (hh : m.c.heap.toNat ≤ 1099511627776) (hs0 : 0 ≤ m.c.steps ∧ m.c.steps ≤ 4611686018427387904) (hW : ∀ j : Nat, V.RP 549755813888 (runM realF j (entM m n args)).w) :
    ACalls Tryz.prog 13 [.v (.pointer (some ⟨L.s, 0, none⟩)), sv name, .sl 1 (args.map zw)] (DP L m q) (fun t S => ∃ m2 q2, t = .tup [zw m2.c.ans, bv (decide (m2.c.st = 3))] ∧ DEnd m2 (runM realF (mostF m.c.heap).toNat (entM m n args)) ∧ DRel m2 q2 ∧ S = DP L m2 q2) := by
 have hb := most_b hh
 refine ACalls.intro Tryz.func13 rfl Tryz.ntmps13 nB rfl fun X w0 => ?_
 refine rs (Y1 (Yv.assign rfl eV) ?_)
 refine ya ?_
 refine rs (ym ?_)
 refine ym ?_
 refine ym ?_
 refine AWL.callAll rfl rfl (B rfl) rfl ce_25 (E rfl rfl) (evsC (E rfl rfl) (evsC (E rfl rfl) (evsC (E rfl rfl) evs0))) (Enter25_ L p hp hpi m q hpr name args n hn hnm hno ha hal) ?_
 rintro t13 S13 ⟨rfl, g, c, a, rfl⟩
 refine ya ?_
 refine AW.seq ?_
 refine rs (ym ?_)
 refine Y1 (Yv.neq rfl eV eV) (nl ?_)
 refine AW.cond rfl (fun h0t => ?_) (fun h0f => ?_)
 ·try replace h0t := odt h0t
  cases h0t
 try replace h0f := odf h0f
 refine AW.skip ?_
 refine rs (ym ?_)
 refine ym ?_
 refine Y1 (Yv.nilChk rfl eV) ?_
 refine yf fo_75_2 ?_
 refine yl ag_22 0 ?_
 refine AWL.callT rfl rfl (B rfl) rfl ce_27 (E rfl rfl) (evsC (E rfl rfl) evs0) (Most27 m.c.heap hh) ?_
 rintro t21 S21 rfl
 refine AWL.callAll rfl rfl (B rfl) rfl ce_26 (E rfl rfl) (evsC (E rfl rfl) (evsC (E rfl rfl) evs0)) (Run13 L p hp hpi hbs (entM m n args) ⟨g, c, a, [], q.l, q.ds, q.ob⟩ (mostF m.c.heap) (entM_ok hp hpr hn ha) ⟨rfl, hq.ok, hq.mem, hq.w⟩ hW hs0 (by unfold mostF; omega)) ?_
 rintro t22 S22 ⟨m2, q2, rfl, hde, hq2, rfl⟩
 refine ya ?_
 refine rs (ym ?_)
 refine Y1 (Yv.nilChk rfl eV) ?_
 refine yf fo_75_9 ?_
 refine yl ag_22 0 ?_
 refine ym ?_
 refine Y1 (Yv.eql rfl eV eV) ?_
 refine Y1 (Yv.assign rfl eV) ?_
 refine ya ?_
 refine AW.ret (retI (.tmp rfl (.tmp rfl .nil)) ?_)
 exact ⟨m2, q2, rfl, hde, hq2, rfl⟩

end Go.Proofs.YtpgbpdnmjeoeoaaGreat.G

namespace Go.Proofs.YtpgbpdnmjeoeoaaGreat.G
open Go Go.RowKit B
set_option maxRecDepth 100000
theorem checkGc : ACalls Tryz.prog 19 [.agg (progCells gcP)] [] (fun t S => t = zi 0) := (Check7 gcP gc_in).mono fun t S h => by rw [h, gc_check]
theorem wt_le : Le (.agg [.v (.string ⟨#[]⟩), .v (.slice none 0 0)]) (V.worldT [] []) := Le.agg (.cons .refl (.cons (fun w L u h => by cases h; exact .sl0 (Nat.zero_le _)) .refl))
def nmStart : List UInt8 := [103, 99, 46, 115, 116, 97, 114, 116]
theorem st_name : (gcP.funs.getD 1 default).name = nmStart := by kernel_rfl
theorem st_no : ∀ j, j < 1 → (gcP.funs.getD j default).name ≠ nmStart := fun j hj => by
 obtain rfl : j = 0 := by omega
 rw [show (gcP.funs.getD 0 default).name = [109, 97, 105, 110] by kernel_rfl]
 decide
theorem st_par : ((([] : List Wd64).length : Nat) : Int) = (gcP.funs.getD 1 default).params := by kernel_rfl
theorem puts0 (a : Wd64) (t : List UInt8) (ht : ∀ j, t.getD j 0 = 0) : ∀ n z, putsN (fun _ => 0) a t n z = 0
 | 0, _ => rfl
 | n + 1, z => by
  rw [putsN, updM, ht]
  split
  ·rfl
  ·exact puts0 a t ht n z
theorem rep0 (n j : Nat) : (List.replicate n (0 : UInt8)).getD j 0 = 0 := by
 rw [List.getD_eq_getElem?_getD, List.getElem?_replicate]
 split <;> rfl
theorem le0 {m : Mf} (hm : ∀ z, m z = 0) (a : Wd64) : ∀ n, leF m a n = 0#64
 | 0 => rfl
 | n + 1 => by
  rw [leF, le0 hm a n, hm]
  have e : bw 0 = 0#64 := by decide
  rw [e]
  simp
theorem cells0 : Cells (fun _ => 0#64) (initM gcP) := fun k hk => le0 (puts0 _ _ (rep0 400) _) _ 8
theorem permN {b3 PX RX LR : Ent} {D F M MP : St} : (((([PX, RX] ++ F) ++ ((M ++ D) ++ ([] ++ (LR :: MP)))) ++ [b3])).Perm (([b3] ++ D) ++ ([LR] ++ (([PX, RX] ++ F) ++ (M ++ MP)))) := by
 refine (List.perm_append_comm (l₁ := ([PX, RX] ++ F) ++ ((M ++ D) ++ ([] ++ (LR :: MP)))) (l₂ := [b3])).trans ?_
 rw [List.append_assoc [b3] D]
 refine List.Perm.append_left [b3] ?_
 show (([PX, RX] ++ F) ++ ((M ++ D) ++ (LR :: MP))).Perm (D ++ (LR :: (([PX, RX] ++ F) ++ (M ++ MP))))
 refine List.Perm.trans ?_ (List.perm_middle (a := LR) (l₁ := D) (l₂ := ([PX, RX] ++ F) ++ (M ++ MP))).symm
 refine List.Perm.trans (l₂ := LR :: (([PX, RX] ++ F) ++ ((M ++ D) ++ MP))) ?_ ?_
 ·rw [← List.append_assoc ([PX, RX] ++ F) (M ++ D) (LR :: MP), ← List.append_assoc ([PX, RX] ++ F) (M ++ D) MP]
  exact List.perm_middle
 refine List.Perm.cons LR ?_
 rw [List.append_assoc M D MP]
 refine List.Perm.trans ?_ (List.perm_append_comm_assoc ([PX, RX] ++ F) D (M ++ MP))
 refine List.Perm.append_left ([PX, RX] ++ F) ?_
 exact List.perm_append_comm_assoc M D MP
theorem steps_run {m : Mc} (hm : MOk gcP m) (n : Nat) (h0 : 0 ≤ m.c.steps) : 0 ≤ (runM realF n m).c.steps ∧ (runM realF n m).c.steps ≤ m.c.steps + n := by
 have h := run_ok (RF := realF) gc_ok gc_in.funs n hm
 omega
end Go.Proofs.YtpgbpdnmjeoeoaaGreat.G

namespace Go.Proofs.YtpgbpdnmjeoeoaaGreat.G
open Go Go.RowKit

open B
set_option maxRecDepth 100000
set_option maxHeartbeats 4000000 in
theorem begun7 (h : Wd64) (hh : h.toNat ≤ 1099511627776) :
    ACalls Tryz.prog 7 [zw h] [] (fun t S => ∃ L m2 q2 mR, t = .v (.pointer (some ⟨L.s, 0, none⟩)) ∧ L.bs.length = gcP.funs.length ∧ DEnd m2 mR ∧ Ended gcP h w00 (symS (stS h (smallB h) (fun _ => 0#64))).c 1#64 mR ∧ DRel m2 q2 ∧ (0 ≤ m2.c.steps ∧ m2.c.steps ≤ 8000000000000) ∧ S = DP L m2 q2) := by
 obtain ⟨mR, hRn, hRw, hRe⟩ := start_run (h := h) (w := w00) (m := (newM gcP h false w00)) (c := fun _ => 0#64) rfl rfl rfl rfl cells0
 refine ACalls.intro Tryz.func7 rfl Tryz.ntmps7 nB rfl fun X w0 => ?_
 refine ra ?_
 refine rs ?_
 refine AWL.callE rfl rfl (B rfl) rfl ce_18 (E rfl rfl) evs0 (F1 := []) (S1 := []) rfl (B.cProgram) ?_
 rintro t7 S7 ⟨rfl, rfl⟩
 refine AWL.allocOp rfl rfl (B rfl) rfl zc_56 (fun b3 => ?_)
 refine AWL.perm (List.perm_append_singleton _ _).symm ?_
 refine AWL.storeBox (i := 0) rfl rfl rfl ag_56 rfl (E rfl rfl) (E rfl rfl) rfl rfl nB (nl ?_)
 refine AW.seq ?_
 refine rs (Y1 (Yv.loadBoxA rfl ag_56 (i := 0) rfl eV rfl rfl) ?_)
 refine AWL.callT rfl rfl (B rfl) rfl ce_19 (E rfl rfl) (evsC (E rfl rfl) evs0) (checkGc) ?_
 rintro t9 S9 rfl
 refine Y1 (Yv.neq rfl eV eV) (nl ?_)
 refine AW.cond rfl (fun h0t => ?_) (fun h0f => ?_)
 ·try replace h0t := odt h0t
  cases h0t
 try replace h0f := odf h0f
 refine AW.skip ?_
 refine AW.mid (α := DLay × DQ) (fun y => [(0, true, zw h), (3, true, pv b3), (4, true, .v (.pointer (some ⟨y.1.s, 0, none⟩)))]) (fun y => DP y.1 (newM gcP h false w00) y.2 ++ [Ent.box b3 56 (progCells gcP)]) (fun y => y.1.bs.length = gcP.funs.length ∧ DRel (newM gcP h false w00) y.2) ?_ ?_
 ·refine AW.regionP rfl ?_
  refine T1 (i := 1) rfl (freeMove rfl (E rfl rfl)) ?_
  refine AWP.two (i := 0) (j := 2) (by kernel_rfl) rfl rfl ?_ ?_
  ·refine Y1 (Yv.loadBoxA rfl ag_56 (i := 0) rfl eV rfl rfl) (nl ?_)
   refine p1 2 ?_
   refine Y1 (Yv.buildS rfl sh_64 evp0 (fun _ => rfl)) (nl ?_)
   refine p1 3 ?_
   refine AWL.callE rfl rfl (B rfl) rfl ce_21 (E rfl rfl) (evsC (E rfl rfl) evs0) (F1 := [Ent.box b3 56 (progCells gcP)]) (S1 := []) rfl ((V.DNew21 [] [] (Nat.zero_le _) (fun x hx => by cases hx) (fun x hx => by cases hx)).le (.cons wt_le .refl)) ?_
   rintro t14 S14 ⟨db, ds, rfl, rfl, hds, hdo, hdt, hdn⟩
   refine nl ?_
   refine p1 4 ?_
   refine AWL.callE rfl rfl (B rfl) rfl ce_20 (E rfl rfl) (evsC (E rfl rfl) (evsC (E rfl rfl) (evsC (E rfl rfl) (evsC (E rfl rfl) evs0)))) (F1 := ([Ent.box b3 56 (progCells gcP)] ++ V.DSt db ds)) (S1 := []) (List.append_nil _).symm (DNew35 gcP h false db gc_in gc_ok) ?_
   rintro t15 S15 ⟨b20, b18, gl, cc, bs, g, c2, a, l, rfl, hbs, hlo, hlm, rfl⟩
   refine AWL.perm (S' := DP ⟨b20, gl, cc, b18, db, bs⟩ (newM gcP h false w00) ⟨g, c2, a, [], l, ds, false⟩ ++ [Ent.box b3 56 (progCells gcP)]) permN (nl ?_)
   refine p1 5 ?_
   refine ya ?_
   refine AWP.done (by kernel_rfl) ?_
   exact ⟨(⟨b20, gl, cc, b18, db, bs⟩, ⟨g, c2, a, [], l, ds, false⟩), ⟨hbs, ⟨rfl, hlo, hlm, side00 hds hdo hdt hdn⟩⟩, (su (su (su sn))), rfl⟩
  refine Y1 (Yv.buildS rfl sh_64 evp0 (fun _ => rfl)) (nl ?_)
  refine AWP.two (i := 0) (j := 3) (by kernel_rfl) rfl rfl ?_ ?_
  ·refine Y1 (Yv.loadBoxA rfl ag_56 (i := 0) rfl eV rfl rfl) (nl ?_)
   refine p1 3 ?_
   refine AWL.callE rfl rfl (B rfl) rfl ce_21 (E rfl rfl) (evsC (E rfl rfl) evs0) (F1 := [Ent.box b3 56 (progCells gcP)]) (S1 := []) rfl ((V.DNew21 [] [] (Nat.zero_le _) (fun x hx => by cases hx) (fun x hx => by cases hx)).le (.cons wt_le .refl)) ?_
   rintro t14 S14 ⟨db, ds, rfl, rfl, hds, hdo, hdt, hdn⟩
   refine nl ?_
   refine p1 4 ?_
   refine AWL.callE rfl rfl (B rfl) rfl ce_20 (E rfl rfl) (evsC (E rfl rfl) (evsC (E rfl rfl) (evsC (E rfl rfl) (evsC (E rfl rfl) evs0)))) (F1 := ([Ent.box b3 56 (progCells gcP)] ++ V.DSt db ds)) (S1 := []) (List.append_nil _).symm (DNew35 gcP h false db gc_in gc_ok) ?_
   rintro t15 S15 ⟨b20, b18, gl, cc, bs, g, c2, a, l, rfl, hbs, hlo, hlm, rfl⟩
   refine AWL.perm (S' := DP ⟨b20, gl, cc, b18, db, bs⟩ (newM gcP h false w00) ⟨g, c2, a, [], l, ds, false⟩ ++ [Ent.box b3 56 (progCells gcP)]) permN (nl ?_)
   refine p1 5 ?_
   refine ya ?_
   refine AWP.done (by kernel_rfl) ?_
   exact ⟨(⟨b20, gl, cc, b18, db, bs⟩, ⟨g, c2, a, [], l, ds, false⟩), ⟨hbs, ⟨rfl, hlo, hlm, side00 hds hdo hdt hdn⟩⟩, (su (su (su sn))), rfl⟩
  refine AWL.callE rfl rfl (B rfl) rfl ce_21 (E rfl rfl) (evsC (E rfl rfl) evs0) (F1 := [Ent.box b3 56 (progCells gcP)]) (S1 := []) rfl ((V.DNew21 [] [] (Nat.zero_le _) (fun x hx => by cases hx) (fun x hx => by cases hx)).le (.cons wt_le .refl)) ?_
  rintro t14 S14 ⟨db, ds, rfl, rfl, hds, hdo, hdt, hdn⟩
  refine nl ?_
  refine p1 0 ?_
  refine Y1 (Yv.loadBoxA rfl ag_56 (i := 0) rfl eV rfl rfl) (nl ?_)
  refine p1 4 ?_
  refine AWL.callE rfl rfl (B rfl) rfl ce_20 (E rfl rfl) (evsC (E rfl rfl) (evsC (E rfl rfl) (evsC (E rfl rfl) (evsC (E rfl rfl) evs0)))) (F1 := ([Ent.box b3 56 (progCells gcP)] ++ V.DSt db ds)) (S1 := []) (List.append_nil _).symm (DNew35 gcP h false db gc_in gc_ok) ?_
  rintro t15 S15 ⟨b20, b18, gl, cc, bs, g, c2, a, l, rfl, hbs, hlo, hlm, rfl⟩
  refine AWL.perm (S' := DP ⟨b20, gl, cc, b18, db, bs⟩ (newM gcP h false w00) ⟨g, c2, a, [], l, ds, false⟩ ++ [Ent.box b3 56 (progCells gcP)]) permN (nl ?_)
  refine p1 5 ?_
  refine ya ?_
  refine AWP.done (by kernel_rfl) ?_
  exact ⟨(⟨b20, gl, cc, b18, db, bs⟩, ⟨g, c2, a, [], l, ds, false⟩), ⟨hbs, ⟨rfl, hlo, hlm, side00 hds hdo hdt hdn⟩⟩, (su (su (su sn))), rfl⟩
 rintro ⟨L, q⟩ ⟨hbs, hq⟩
 refine rs (ym ?_)
 refine AWL.callF rfl rfl (B rfl) rfl ce_13 (E rfl rfl) (evsC (E rfl rfl) (evsC (E rfl rfl) (evsC (E rfl rfl) evs0))) (F1 := []) (S1 := (DP L (newM gcP h false w00) q)) (F2 := [Ent.box b3 56 (progCells gcP)]) rfl ((Call13 L gcP gc_ok gc_in (newM gcP h false w00) q rfl hq hbs nmStart [] 1 (by rw [gc_len]; decide) st_name st_no st_par (Nat.zero_le _) hh ⟨(by show (0 : Int) ≤ 0; decide), (by show (0 : Int) ≤ 4611686018427387904; decide)⟩ (fun j => by rw [hRw j]; exact rp00)).le (.cons .refl (.cons .refl (.cons nilW .refl)))) ?_
 rintro t18 S18 ⟨m2, q2, rfl, hde, hq2, rfl⟩
 refine ym ?_
 refine Y1 (Yv.extract rfl eV rfl) ?_
 refine Y1 (Yv.extract rfl eV rfl) ?_
 refine Y1 (Yv.assign rfl eV) ?_
 refine ya ?_
 have hN : 91 ≤ (mostF h).toNat := by unfold mostF; omega
 replace hde : DEnd m2 mR := by have := hRn _ hN; rw [← this]; exact hde
 have hst : m2.c.st = 3 := by rw [c_end hde]; exact hRe.st
 have hsr := steps_run (entM_ok (m := (newM gcP h false w00)) (n := 1) (args := []) gc_ok rfl (by rw [gc_len]; decide) st_par) (mostF h).toNat (by show (0 : Int) ≤ 0; decide)
 rw [hRn _ hN] at hsr
 have hmb := most_b hh
 refine AW.seq ?_
 refine rs (ym ?_)
 refine Y1 (Yv.not rfl eV) (nl ?_)
 refine AW.cond rfl (fun h1t => ?_) (fun h1f => ?_)
 ·try replace h1t := odt h1t
  exfalso; rw [hst] at h1t; cases h1t
 try replace h1f := odf h1f
 refine AW.skip ?_
 refine rs (ym ?_)
 refine ya ?_
 refine AW.drop (S' := DP L m2 q2) (List.sublist_append_left (DP L m2 q2) _) ?_
 refine AW.ret (retI (.tmp rfl .nil) ?_)
 refine ⟨L, m2, q2, mR, rfl, hbs, hde, hRe, hq2, ?_, rfl⟩
 rw [c_end hde]
 refine ⟨hsr.1, Int.le_trans hsr.2 ?_⟩
 show (0 : Int) + ((mostF h).toNat : Int) ≤ _
 unfold mostF
 omega

end Go.Proofs.YtpgbpdnmjeoeoaaGreat.G

namespace Go.Proofs.YtpgbpdnmjeoeoaaGreat.G
open Go Go.RowKit

theorem len1c {a b : T} : [a, b].length = 1 * 2 := rfl
section
variable {cx : Cx} {env : Env} {S : St} {o : Oper} {g : Bool} {x y : Operand}
theorem freeConvU {src dst : TypeId} {k : IntKind} {p : Int} {d : TypeDesc} (ho : o.op = .convert src dst x) (hs : cx.P.underlying src = some d) (hd : kindOf cx.P dst = some .u64) (hx : Ev env true x (.v (.int k p))) (hb : 0 ≤ p ∧ p ≤ 18446744073709551615) : ∀ a w, Sim cx env S a w → ∃ u, VRep w (cx.X ++ M S) (.v (.int .u64 p)) u ∧ ∀ w', (execOp a.eval o).run cx.P w' = .ok (.value u) w' :=
 fun a w hsim => ⟨_, .v _, fun w' => by
  simp only [execOp, ho, hx.val hsim rfl, convert, Sem.run_bind, run_underlying hs, run_underlying (kindOf_spec hd), Result.andThen_ok, Conv.intToInt, Sem.run_pure, IntWalk.u64_in _ hb]⟩
theorem freeMulU {ty yt : TypeId} {p q : Int} (ho : o.op = .binOp .mul ty x y yt) (hx : Ev env true x (.v (.int .u64 p))) (hy : Ev env true y (.v (.int .u64 q))) (hb : 0 ≤ p * q ∧ p * q ≤ 18446744073709551615) : ∀ a w, Sim cx env S a w → ∃ u, VRep w (cx.X ++ M S) (.v (.int .u64 (p * q))) u ∧ ∀ w', (execOp a.eval o).run cx.P w' = .ok (.value u) w' :=
 fun a w hs => ⟨_, .v _, fun w' => by rw [exec_binOp_int ho (hx.val hs rfl) (hy.val hs rfl)]; simp [binOp, Op.intArith, Sem.run_pure, IntWalk.u64_in _ hb]⟩
end
set_option maxHeartbeats 400000 in
theorem Rows45 (k : Int) :
    ACalls Tryz.prog 45 [zi k] [] (fun t S => t = bv (((decide (k = 2) || decide (k = 7)) || decide (k = 3)) || decide (k = 4))) := by
 refine ACalls.intro Tryz.func45 rfl Tryz.ntmps45 nB rfl fun X w0 => ?_
 refine ra ?_
 refine rs (ym ?_)
 refine Y1 (Yv.eql rfl eV eV) ?_
 refine ym ?_
 refine gF (Yv.move rfl eV) ?_
 refine gF (Yv.eql rfl (Eg rfl rfl id) eV) ?_
 refine Y1 (Yv.pickOr (t := .const (.bool true)) rfl eV (Eg rfl rfl id)) ?_
 refine ym ?_
 refine gF (Yv.move rfl eV) ?_
 refine gF (Yv.eql rfl (Eg rfl rfl id) eV) ?_
 refine Y1 (Yv.pickOr (t := .const (.bool true)) rfl eV (Eg rfl rfl id)) ?_
 refine ym ?_
 refine gF (Yv.move rfl eV) ?_
 refine gF (Yv.eql rfl (Eg rfl rfl id) eV) ?_
 refine Y1 (Yv.pickOr (t := .const (.bool true)) rfl eV (Eg rfl rfl id)) ?_
 refine ya ?_
 refine AW.ret (retI (.tmp rfl .nil) ?_)
 rfl

set_option maxHeartbeats 400000 in
theorem May23c  :
    ACalls Tryz.prog 23 [.agg [zi 5, zi 0, sv [], .sl 2 [zi 1, zi 0]]] [] (fun t S => t = bv true) := by
 refine ACalls.intro Tryz.func23 rfl Tryz.ntmps23 nB rfl fun X w0 => ?_
 refine rs ?_
 refine AWL.boxOp rfl rfl (B rfl) rfl (E rfl rfl) rfl (fun b1 => ?_)
 refine ya ?_
 refine rs (yf fo_31_0 ?_)
 refine yl ag_3 0 ?_
 refine AWL.callP rfl rfl (B rfl) rfl ce_45 (E rfl rfl) (evsC (E rfl rfl) evs0) (Rows45 5) (fun t S h => h) ?_
 refine ya ?_
 refine AW.seq ?_
 refine rs (ym ?_)
 refine ym ?_
 refine gT (Yv.fieldBox rfl fo_31_3 eV) ?_
 refine gT (Yv.loadBox rfl ag_29 (i := 0) rfl (Eg rfl rfl id) rfl) ?_
 refine gT (Yv.lenSl rfl so_29 (B rfl) (Eg rfl rfl id) len1c) ?_
 refine gT (Yv.gtr rfl (Eg rfl rfl id) eV) ?_
 refine Y1 (Yv.pickAnd rfl eV (Eg rfl rfl id)) ?_
 refine ym ?_
 refine gF (Yv.move rfl eV) ?_
 refine gF (Yv.not rfl (Eg rfl rfl id)) ?_
 refine gF (Yv.move rfl (Eg rfl rfl id)) ?_
 refine gT (Yv.fieldBox rfl fo_31_2 eV) ?_
 refine gT (Yv.loadBox rfl ag_9 (i := 0) rfl (Eg rfl rfl id) rfl) ?_
 refine gT (Yv.lenL rfl st_9 (Eg rfl rfl id)) ?_
 refine gT (Yv.gtr rfl (Eg rfl rfl id) eV) ?_
 refine gF (Yv.pickAnd rfl (Eg rfl rfl id) (Eg rfl rfl id)) ?_
 refine Y1 (Yv.pickOr (t := .const (.bool true)) rfl eV (Eg rfl rfl id)) (nl ?_)
 refine AW.cond rfl (fun h0t => ?_) (fun h0f => ?_)
 ·try replace h0t := odt h0t
  exact absurd h0t (by decide)
 try replace h0f := odf h0f
 refine AW.skip ?_
 refine AW.seq ?_
 refine rs (yf fo_31_0 ?_)
 refine yl ag_3 0 (nl ?_)
 refine AW.block ?_
 refine rs (Y1 (Yv.eql rfl eV eV) ?_)
 refine ya ?_
 refine AW.cond rfl (fun h1t => ?_) (fun h1f => ?_)
 ·try replace h1t := odt h1t
  exact absurd h1t (by decide)
 try replace h1f := odf h1f
 refine rs (Y1 (Yv.eql rfl eV eV) ?_)
 refine ya ?_
 refine AW.cond rfl (fun h2t => ?_) (fun h2f => ?_)
 ·try replace h2t := odt h2t
  exact absurd h2t (by decide)
 try replace h2f := odf h2f
 refine AW.seq ?_
 refine rs (Y1 (Yv.eql rfl eV eV) ?_)
 refine ya ?_
 refine AW.cond rfl (fun h3t => ?_) (fun h3f => ?_)
 ·try replace h3t := odt h3t
  exact absurd h3t (by decide)
 try replace h3f := odf h3f
 refine rs (Y1 (Yv.eql rfl eV eV) ?_)
 refine ya ?_
 refine AW.cond rfl (fun h4t => ?_) (fun h4f => ?_)
 ·try replace h4t := odt h4t
  exact absurd h4t (by decide)
 try replace h4f := odf h4f
 refine AW.region ?_
 refine Y1 (Yv.eql rfl eV eV) ?_
 refine ya ?_
 refine AW.cond rfl (fun h5t => ?_) (fun h5f => ?_)
 ·try replace h5t := odt h5t
  exact absurd h5t (by decide)
 try replace h5f := odf h5f
 refine rs (Y1 (Yv.eql rfl eV eV) ?_)
 refine ya ?_
 refine AW.cond rfl (fun h6t => ?_) (fun h6f => ?_)
 ·try replace h6t := odt h6t
  exact absurd h6t (by decide)
 try replace h6f := odf h6f
 refine rs (Y1 (Yv.eql rfl eV eV) ?_)
 refine ya ?_
 refine AW.cond rfl (fun h7t => ?_) (fun h7f => ?_)
 ·try replace h7t := odt h7t
  refine rs (yf fo_31_1 ?_)
  refine yl ag_3 0 ?_
  refine Y1 (Yv.eql rfl eV eV) ?_
  refine ym ?_
  refine gT (Yv.fieldBox rfl fo_31_3 eV) ?_
  refine gT (Yv.loadBox rfl ag_29 (i := 0) rfl (Eg rfl rfl id) rfl) ?_
  refine gT (Yv.lenSl rfl so_29 (B rfl) (Eg rfl rfl id) len1c) ?_
  refine gT (Yv.eql rfl (Eg rfl rfl id) eV) ?_
  refine Y1 (Yv.pickAnd rfl eV (Eg rfl rfl id)) ?_
  refine ya ?_
  refine AW.ret (retI (.tmp rfl .nil) ?_)
  rfl
 try replace h7f := odf h7f
 exact absurd h7f (by decide)

set_option maxHeartbeats 400000 in
theorem length24c  :
    ACalls Tryz.prog 24 [.agg [zi 5, zi 0, sv [], .sl 2 [zi 1, zi 0]]] [] (fun t S => t = zi 1) := by
 refine ACalls.intro Tryz.func24 rfl Tryz.ntmps24 nB rfl fun X w0 => ?_
 refine rs ?_
 refine AWL.boxOp rfl rfl (B rfl) rfl (E rfl rfl) rfl (fun b1 => ?_)
 refine ya ?_
 refine rs (yf fo_31_0 ?_)
 refine yl ag_3 0 ?_
 refine AWL.callP rfl rfl (B rfl) rfl ce_45 (E rfl rfl) (evsC (E rfl rfl) evs0) (Rows45 5) (fun t S h => h) ?_
 refine ya ?_
 refine AW.seq ?_
 refine rs (ym (nl ?_))
 refine AW.cond rfl (fun h0t => ?_) (fun h0f => ?_)
 ·try replace h0t := odt h0t
  exact absurd h0t (by decide)
 try replace h0f := odf h0f
 refine AW.skip ?_
 refine AW.seq ?_
 refine rs (yf fo_31_0 ?_)
 refine yl ag_3 0 ?_
 refine Y1 (Yv.eql rfl eV eV) (nl ?_)
 refine AW.cond rfl (fun h1t => ?_) (fun h1f => ?_)
 ·try replace h1t := odt h1t
  exact absurd h1t (by decide)
 try replace h1f := odf h1f
 refine AW.skip ?_
 refine rs (yf fo_31_3 ?_)
 refine yl ag_29 0 ?_
 refine Y1 (Yv.lenSl rfl so_29 (B rfl) eV len1c) ?_
 refine ya ?_
 refine AW.ret (retI (.tmp rfl .nil) ?_)
 rfl

set_option maxHeartbeats 400000 in
theorem Header9c  :
    ACalls Tryz.prog 9 [.agg [zi 5, zi 0, sv [], .sl 2 [zi 1, zi 0]]] [] (fun t S => t = zw 16777227#64) := by
 refine ACalls.intro Tryz.func9 rfl Tryz.ntmps9 nB rfl fun X w0 => ?_
 refine rs ?_
 refine AWL.boxOp rfl rfl (B rfl) rfl (E rfl rfl) rfl (fun b1 => ?_)
 refine AWL.perm (List.perm_append_singleton _ _).symm ?_
 refine ya ?_
 refine rs (Y1 (Yv.loadBoxA rfl ag_31 (i := 0) rfl eV rfl rfl) ?_)
 refine AWL.callP rfl rfl (B rfl) rfl ce_23 (E rfl rfl) (evsC (E rfl rfl) evs0) (May23c) (fun t S h => h) ?_
 refine ya ?_
 refine AW.seq ?_
 refine rs (ym ?_)
 refine Y1 (Yv.not rfl eV) (nl ?_)
 refine AW.cond rfl (fun h0t => ?_) (fun h0f => ?_)
 ·try replace h0t := odt h0t
  exact absurd h0t (by decide)
 try replace h0f := odf h0f
 refine AW.skip ?_
 refine rs (yf fo_31_1 ?_)
 refine yl ag_3 0 ?_
 refine ya ?_
 refine AW.seq ?_
 refine rs (yf fo_31_0 ?_)
 refine yl ag_3 0 ?_
 refine Y1 (Yv.eql rfl eV eV) (nl ?_)
 refine AW.cond rfl (fun h1t => ?_) (fun h1f => ?_)
 ·try replace h1t := odt h1t
  exact absurd h1t (by decide)
 try replace h1f := odf h1f
 refine AW.skip ?_
 refine AW.rseqH (HeldCs [(b1, 0, Value.int .i64 5)]) rfl (tells_cs (tcB 0 rfl rfl pinV tc0)) ?_
 refine T2 (i := 0) rfl (heldAll (freeField rfl fo_31_0 (E rfl rfl))) ?_
 refine T2 (i := 1) rfl (heldB 0 rfl ag_3 (E rfl rfl) rfl (fun _ _ => .v _)) ?_
 refine T2 (i := 2) rfl (heldAll (freeConvU rfl Tryz.underlying3 kd_22 (E rfl rfl) (by decide))) ?_
 refine T2 (i := 3) rfl (heldAll (freeMulU rfl (E rfl rfl) (E rfl rfl) (by decide))) ?_
 refine T2 (i := 4) rfl (heldAll (freeAdd_u64 rfl (E rfl rfl) (E rfl rfl) (by decide))) ?_
 refine T2 (i := 5) rfl (heldAll (freeMove rfl (E rfl rfl))) ?_
 refine T2 (i := 6) rfl (heldAll (freeConvU rfl Tryz.underlying3 kd_22 (E rfl rfl) (by decide))) ?_
 refine T2 (i := 7) rfl (heldAll (freeMulU rfl (E rfl rfl) (E rfl rfl) (by decide))) ?_
 refine T2 (i := 8) rfl (heldAll (freeAdd_u64 rfl (E rfl rfl) (E rfl rfl) (by decide))) ?_
 refine AWH.one (i := 9) (by kernel_rfl) rfl ?_
 refine Y1 (Yv.loadBoxA rfl ag_31 (i := 0) rfl eV rfl rfl) ?_
 refine AWL.nil (kpH (tcB 0 rfl rfl pinV tc0) ?_)
 refine AWH.one (i := 10) (by kernel_rfl) rfl ?_
 refine AWL.callP rfl rfl (B rfl) rfl ce_24 (E rfl rfl) (evsC (E rfl rfl) evs0) (length24c) (fun t S h => h) ?_
 refine AWL.nil (kpH (tcB 0 rfl rfl pinV tc0) ?_)
 refine AWH.one (i := 11) (by kernel_rfl) rfl ?_
 refine Y1 (Yv.convN_u64 rfl Tryz.underlying3 kd_22 eV (fun hg => by omega)) ?_
 refine AWL.nil (kpH (tcB 0 rfl rfl pinV tc0) ?_)
 refine AWH.one (i := 12) (by kernel_rfl) rfl ?_
 refine Y1 (Yv.shlCN_u64 16777216 (by decide) (by decide) rfl (E rfl rfl) (E rfl rfl) (fun hg => by omega)) ?_
 refine AWL.nil (kpH (tcB 0 rfl rfl pinV tc0) ?_)
 refine AWH.one (i := 13) (by kernel_rfl) rfl ?_
 refine Y1 (Yv.addN_u64 rfl eV eV (fun hg => by omega)) ?_
 refine AWL.nil (kpH (tcB 0 rfl rfl pinV tc0) ?_)
 refine AWH.one (i := 14) (by kernel_rfl) rfl ?_
 refine Y1 (Yv.assign rfl eV) ?_
 refine AWL.nil (kpH (tcB 0 rfl rfl pinV tc0) ?_)
 refine AWH.done (by kernel_rfl) ?_
 refine AW.ret (retI (.tmp rfl .nil) ?_)
 rfl

end Go.Proofs.YtpgbpdnmjeoeoaaGreat.G

namespace Go.Proofs.YtpgbpdnmjeoeoaaGreat.G
open Go Go.RowKit B
def heldL (m : Mc) : List Wd64 := wordM m 268435480#64 :: (List.range 8).map (fun (i : Nat) => wordM m (268435488#64 + 16#64 * wI (i : Int) + 8#64))
theorem held_len (m : Mc) : (heldL m).length = 9 := by unfold heldL; simp
theorem wI_n {j : Nat} (h : j ≤ 1000) : (wI (j : Int)).toNat = j := by
 have h1 := wI_nat (j : Int)
 rw [wrap_u64] at h1
 omega
theorem lt8 {j : Nat} (h : j ≤ 8) : (wI (j : Int) < 8#64) ↔ j < 8 := by
 rw [BitVec.lt_def, wI_n (by omega)]
 exact Iff.rfl
theorem wI_succ (j : Nat) : wI (j : Int) + 1#64 = wI ((j + 1 : Nat) : Int) := by
 apply BitVec.eq_of_toNat_eq
 have h1 := wI_nat (j : Int)
 have h2 := wI_nat ((j + 1 : Nat) : Int)
 rw [wrap_u64] at h1 h2
 rw [BitVec.toNat_add, show (1#64 : Wd64).toNat = 1 from rfl]
 omega
theorem row_succ {m : Mc} {r : Wd64} (j : Nat) : (zw r :: (List.range j).map (fun (i : Nat) => zw (wordM m (268435488#64 + 16#64 * wI (i : Int) + 8#64)))) ++ [zw (wordM m (268435488#64 + 16#64 * wI (j : Int) + 8#64))] = zw r :: (List.range (j + 1)).map (fun (i : Nat) => zw (wordM m (268435488#64 + 16#64 * wI (i : Int) + 8#64))) := by
 rw [List.range_succ, List.map_append]; rfl
theorem held_map (m : Mc) : zw (wordM m 268435480#64) :: (List.range 8).map (fun (i : Nat) => zw (wordM m (268435488#64 + 16#64 * wI (i : Int) + 8#64))) = (heldL m).map zw := by
 unfold heldL
 rw [List.map_cons, List.map_map]; rfl
section
variable {h : Wd64} {w : V.PW} {c : Nat → Wd64} {v : Wd64} {m m2 : Mc}
theorem word_k (hd : DEnd m2 m) (he : Ended gcP h w c v m) {a : Wd64} (k : Nat) (hk : k < 50) (ha : a = 268435456#64 + wI ((8 * k : Nat) : Int)) : wordM m2 a = c k := by
 rw [wordM_end hd, ha]; exact word_cell he k hk
theorem exn_at {j : Nat} (hj : j < 8) : 268435488#64 + 16#64 * wI (j : Int) = 268435456#64 + wI ((8 * (4 + 2 * j) : Nat) : Int) ∧ 268435488#64 + 16#64 * wI (j : Int) + 8#64 = 268435456#64 + wI ((8 * (5 + 2 * j) : Nat) : Int) := by
 match j, hj with
 | 0, _ => exact ⟨by decide, by decide⟩
 | 1, _ => exact ⟨by decide, by decide⟩
 | 2, _ => exact ⟨by decide, by decide⟩
 | 3, _ => exact ⟨by decide, by decide⟩
 | 4, _ => exact ⟨by decide, by decide⟩
 | 5, _ => exact ⟨by decide, by decide⟩
 | 6, _ => exact ⟨by decide, by decide⟩
 | 7, _ => exact ⟨by decide, by decide⟩
 | (n + 8), q => exact absurd q (by omega)
end
/-! ### gc.start's promises -/
section
variable {h : Wd64}
theorem p_heap (hh : h.toNat ≤ 1099511627776) : ¬ (botW h < 1073741824#64) := by
 rw [BitVec.lt_def, bot_n hh]
 show ¬ (_ < 1073741824)
 omega
theorem p_end (hh : h.toNat ≤ 1099511627776) : ¬ (endW h (smallB h) < botW h) := by
 rw [BitVec.lt_def, end_n hh]; omega
theorem p_size (hl : 65536 ≤ h.toNat) (hh : h.toNat ≤ 1099511627776) : ¬ (h < endW h (smallB h) - 1073741824#64) := by
 have e1 := end_n hh
 have e2 := bot_n hh
 have e3 : (endW h (smallB h) - 1073741824#64).toNat = (endW h (smallB h)).toNat - 1073741824 := by
  rw [BitVec.toNat_sub, show (1073741824#64 : Wd64).toNat = 1073741824 from rfl]
  have := (endW h (smallB h)).isLt
  omega
 rw [BitVec.lt_def, e3, e1, e2]
 omega
theorem p_room (hl : 65536 ≤ h.toNat) (hh : h.toNat ≤ 1099511627776) {z : Wd64} (hz : z.toNat = min (h.toNat / 8) 16777216) : ¬ (endW h (smallB h) - botW h < z - 64#64) := by
 have e1 := end_n hh
 have e2 := bot_n hh
 have e3 : (endW h (smallB h) - botW h).toNat = min (h.toNat / 128 * 16) 16777216 := by
  rw [BitVec.toNat_sub, e1]
  have := (botW h).isLt
  omega
 have e4 : (z - 64#64).toNat = z.toNat - 64 := by
  rw [BitVec.toNat_sub, show (64#64 : Wd64).toNat = 64 from rfl]
  have := z.isLt
  omega
 rw [BitVec.lt_def, e3, e4, hz]
 omega
theorem p_eight (hh : h.toNat ≤ 1099511627776) : botW h % 8#64 = 0#64 := by
 apply BitVec.eq_of_toNat_eq
 rw [BitVec.toNat_umod, bot_n hh]
 show (_ % 8) = 0
 omega
end
end Go.Proofs.YtpgbpdnmjeoeoaaGreat.G

namespace Go.Proofs.YtpgbpdnmjeoeoaaGreat.G
open Go Go.RowKit

set_option maxHeartbeats 4000000 in
theorem Held10 (L : DLay) (p : Prog) (hp : ProgOk p) (hpi : ProgIn p) (m : Mc) (q : DQ) (hpr : m.c.prog = p) (hq : DRel m q) (hT : wordM m 268435456#64 = wordM m 268435464#64) :
    ACalls Tryz.prog 10 [.v (.pointer (some ⟨L.s, 0, none⟩))] (DP L m q) (fun t S => t = .sl 1 ((heldL m).map zw) ∧ S = DP L m q) := by
 refine ACalls.intro Tryz.func10 rfl Tryz.ntmps10 nB rfl fun X w0 => ?_
 refine ra ?_
 refine ra ?_
 refine rs (ym ?_)
 refine AWL.callAll rfl rfl (B rfl) rfl ce_8 (E rfl rfl) (evsC (E rfl rfl) (evsC (E rfl rfl) evs0)) (Word8 L p hp hpi m q hpr hq (268435456#64)) ?_
 rintro t8 S8 ⟨rfl, rfl⟩
 refine ya ?_
 refine AW.seq ?_
 refine rs (ym ?_)
 refine AWL.callAll rfl rfl (B rfl) rfl ce_8 (E rfl rfl) (evsC (E rfl rfl) (evsC (E rfl rfl) evs0)) (Word8 L p hp hpi m q hpr hq (268435464#64)) ?_
 rintro t10 S10 ⟨rfl, rfl⟩
 refine ya ?_
 refine AW.rowNil 22 1 ?_
 refine AW.perm (List.perm_append_singleton _ _).symm ?_
 refine AW.block ?_
 refine AW.loop (fun (u : Unit) => [(0, true, .v (.pointer (some ⟨L.s, 0, none⟩))), (3, true, .v (.slice none 0 0)), (4, true, zw (wordM m 268435456#64)), (5, true, zw (wordM m 268435464#64))]) (fun (u : Unit) => (Ent.row none 0 0 22 1 [] :: DP L m q)) (fun (u : Unit) => True) (fun (u : Unit) => 0) (()) ?_ ?_ ?_ ?_
 ·trivial
 ·exact (su (su (su (su sn))))
 ·rfl
 intro u hinv
 refine AW.seq ?_
 refine rs (ym ?_)
 refine ym ?_
 refine Y1 (Yv.lssW rfl eV eV) ?_
 refine ym ?_
 refine gT (Yv.move rfl eV) ?_
 refine gT (Yv.lenV rfl so_32 (Eg rfl rfl id)) ?_
 refine gT (Yv.lss rfl (Eg rfl rfl id) eV) ?_
 refine Y1 (Yv.pickAnd rfl eV (Eg rfl rfl id)) (nl ?_)
 refine AW.cond rfl (fun h0t => ?_) (fun h0f => ?_)
 ·try replace h0t := odt h0t
  exfalso; simp [hT] at h0t
 try replace h0f := odf h0f
 refine AW.exit ?_
 refine rs (ym ?_)
 refine ym ?_
 refine AWL.callE rfl rfl (B rfl) rfl ce_8 (E rfl rfl) (evsC (E rfl rfl) (evsC (E rfl rfl) evs0)) (F1 := [Ent.row none 0 0 22 1 []]) (S1 := (DP L m q)) rfl (Word8 L p hp hpi m q hpr hq (268435480#64)) ?_
 rintro t29 S29 ⟨rfl, rfl⟩
 refine AWL.buildSlice1 rfl rfl (B rfl) rfl el_32 rfl (evsC (E rfl rfl) evs0) nB rfl rfl ?_
 refine AWL.appendRow (i := 0) rfl rfl (B rfl) rfl el_32 (B rfl) rfl (E rfl rfl) (SrcT.sl (m := 1) so_32 (B rfl) (E rfl rfl) rfl) (by unfold maxLen; omega) (by omega) (fun A1 c1 => ?_)
 refine ya ?_
 refine AW.seq ?_
 refine ra ?_
 refine AW.block ?_
 refine AW.loop3 (fun (j : Nat) (A : Option Addr) (c : Nat) => [(0, true, .v (.pointer (some ⟨L.s, 0, none⟩))), (3, true, .v (.slice A (1 + j) c)), (6, true, zw (wI (j : Int)))]) (fun (j : Nat) (A : Option Addr) (c : Nat) => ([Ent.row A (1 + j) c 22 1 (zw (wordM m 268435480#64) :: (List.range j).map (fun (i : Nat) => zw (wordM m (268435488#64 + 16#64 * wI (i : Int) + 8#64))))] ++ DP L m q)) (fun (j : Nat) (A : Option Addr) (c : Nat) => j ≤ 8) (fun (j : Nat) (A : Option Addr) (c : Nat) => 8 - j) 0 A1 c1 ?_ ?_ ?_ ?_
 ·exact Nat.zero_le _
 ·exact (su (su (su sn)))
 ·rfl
 intro j A c hinv
 refine AW.seq ?_
 refine rs (ym ?_)
 refine Y1 (Yv.lssW (b := 8#64) rfl eV eV) (nl ?_)
 refine AW.cond rfl (fun h1t => ?_) (fun h1f => ?_)
 ·try replace h1t := odt h1t
  have hj := (lt8 hinv).1 h1t
  refine AW.skip ?_
  refine AW.seq ?_
  refine AW.block ?_
  refine AW.region ?_
  refine ym ?_
  refine ym ?_
  refine ym ?_
  refine Y1 (Yv.mulW (a := 16#64) rfl eV eV) ?_
  refine Y1 (Yv.addW (a := 268435488#64) rfl eV eV) ?_
  refine Y1 (Yv.addW (b := 8#64) rfl eV eV) ?_
  refine AWL.callE rfl rfl (B rfl) rfl ce_8 (E rfl rfl) (evsC (E rfl rfl) (evsC (E rfl rfl) evs0)) (F1 := [Ent.row A (1 + j) c 22 1 (zw (wordM m 268435480#64) :: (List.range j).map (fun (i : Nat) => zw (wordM m (268435488#64 + 16#64 * wI (i : Int) + 8#64))))]) (S1 := (DP L m q)) rfl (Word8 L p hp hpi m q hpr hq (268435488#64 + 16#64 * wI (j : Int) + 8#64)) ?_
  rintro t42 S42 ⟨rfl, rfl⟩
  refine AWL.buildSlice1 rfl rfl (B rfl) rfl el_32 rfl (evsC (E rfl rfl) evs0) nB rfl rfl ?_
  refine AWL.appendRow (i := 0) rfl rfl (B rfl) rfl el_32 (B rfl) rfl (E rfl rfl) (SrcT.sl (m := 1) so_32 (B rfl) (E rfl rfl) rfl) (by unfold maxLen; omega) (by omega) (fun A2 c2 => ?_)
  refine ya ?_
  refine AW.region ?_
  refine ym ?_
  refine Y1 (Yv.addW (b := 1#64) rfl eV eV) ?_
  refine ya ?_
  refine ⟨j + 1, A2, c2, by omega, by omega, (su (su (Sub.cons rfl (by rw [wI_succ]) Sub.nil))), ?_⟩
  rw [← row_succ]
  rfl
 try replace h1f := odf h1f
 obtain rfl : j = 8 := by
  rcases Nat.lt_or_ge j 8 with z | z
  ·exact absurd ((lt8 hinv).2 z) h1f
  ·omega
 refine AW.exit ?_
 rw [held_map]
 refine AW.freeze 0 3 rfl (by decide) rfl ?_
 refine rs (ym ?_)
 refine ya ?_
 refine AW.ret (retI (.tmp rfl .nil) ?_)
 exact ⟨rfl, rfl⟩

end Go.Proofs.YtpgbpdnmjeoeoaaGreat.G

namespace Go.Proofs.YtpgbpdnmjeoeoaaGreat.G
open Go Go.RowKit

open B
set_option maxRecDepth 100000
theorem clampW (h0 : Wd64) : 65536 ≤ (65536#64 + h0 % 1099511562241#64).toNat ∧ (65536#64 + h0 % 1099511562241#64).toNat ≤ 1099511627776 := by
 rw [BitVec.toNat_add, BitVec.toNat_umod, show (1099511562241#64 : Wd64).toNat = 1099511562241 from rfl, show (65536#64 : Wd64).toNat = 65536 from rfl]
 omega
theorem keepW {h0 : Wd64} (h : (decide (h0 < 65536#64) || decide (1099511627776#64 < h0)) = false) : 65536 ≤ h0.toNat ∧ h0.toNat ≤ 1099511627776 := by
 simp only [Bool.or_eq_false_iff, decide_eq_false_iff_not, BitVec.lt_def, show (1099511627776#64 : Wd64).toNat = 1099511627776 from rfl, show (65536#64 : Wd64).toNat = 65536 from rfl] at h
 omega
theorem div8 (y : Wd64) : (y / 8#64).toNat = y.toNat / 8 := by rw [BitVec.toNat_udiv]; rfl
theorem roomA {y : Wd64} (h : 16777216#64 < y / 8#64) : (16777216#64 : Wd64).toNat = min (y.toNat / 8) 16777216 := by
 rw [BitVec.lt_def, div8, show (16777216#64 : Wd64).toNat = 16777216 from rfl] at h
 rw [show (16777216#64 : Wd64).toNat = 16777216 from rfl]
 omega
theorem roomB {y : Wd64} (h : ¬ 16777216#64 < y / 8#64) : (y / 8#64).toNat = min (y.toNat / 8) 16777216 := by
 rw [BitVec.lt_def, div8, show (16777216#64 : Wd64).toNat = 16777216 from rfl] at h
 rw [div8]
 omega
theorem held9 {m : Mc} : ((heldL m).map zw).length = 9 * 1 := by rw [List.length_map, held_len]
theorem held_at {m : Mc} {j : Nat} (h : j < 9) : ((heldL m).map zw)[j * 1 + 0]? = some (zw ((heldL m).getD j 0#64)) := by
 have hl : j < (heldL m).length := by rw [held_len]; exact h
 rw [Nat.mul_one, Nat.add_zero, List.getElem?_map, List.getElem?_eq_getElem hl]
 simp [hl]
theorem held_ones {h : Wd64} {w : V.PW} {c : Nat → Wd64} {v : Wd64} {m m2 : Mc} (hd : DEnd m2 m) (he : Ended gcP h w c v m) (h3 : c 3 = 1#64) (h5 : ∀ k, k < 8 → c (5 + 2 * k) = 1#64) : ∀ j, j < 9 → (heldL m2).getD j 0#64 = 1#64 := by
 intro j hj
 unfold heldL
 match j, hj with
 | 0, _ => exact (word_k hd he 3 (by decide) (by decide)).trans h3
 | j + 1, hj =>
  have hj8 : j < 8 := by omega
  rw [List.getD_cons_succ, List.getD_eq_getElem?_getD, List.getElem?_map, List.getElem?_range hj8]
  exact (word_k hd he (5 + 2 * j) (by omega) (exn_at hj8).2).trans (h5 j hj8)
theorem allF {y z : Wd64} (hy : 65536 ≤ y.toNat ∧ y.toNat ≤ 1099511627776) (hz : z.toNat = min (y.toNat / 8) 16777216) (h : (((((!decide (botW y = botW y) || decide (botW y < 1073741824#64)) || decide (endW y (smallB y) < botW y)) || decide (y < endW y (smallB y) - 1073741824#64)) || decide (endW y (smallB y) - botW y < z - 64#64)) || !decide (botW y % 8#64 = 0#64)) = true) : False := by
 have f1 := decide_eq_false (p_heap hy.2)
 have f2 := decide_eq_false (p_end hy.2)
 have f3 := decide_eq_false (p_size hy.1 hy.2)
 have f4 := decide_eq_false (p_room hy.1 hy.2 hz)
 have f5 := decide_eq_true (p_eight hy.2)
 rw [f1, f2, f3, f4, f5, decide_eq_true rfl] at h
 cases h
set_option maxHeartbeats 8000000 in
theorem GcrtStarts3 (h0 : Wd64) :
    ACalls Tryz.prog 3 [zw h0] [] (fun t S => t = bv true) := by
 refine ACalls.intro Tryz.func3 rfl Tryz.ntmps3 nB rfl fun X w0 => ?_
 refine ra ?_
 refine rs (ym ?_)
 refine ya ?_
 refine AW.mid (α := Wd64) (fun y => [(3, true, zw y)]) (fun _ => []) (fun y => 65536 ≤ y.toNat ∧ y.toNat ≤ 1099511627776) ?_ ?_
 ·refine rs (ym ?_)
  refine Y1 (Yv.lssW (b := 65536#64) rfl eV eV) ?_
  refine ym ?_
  refine gF (Yv.move rfl eV) ?_
  refine gF (Yv.gtrW (b := 1099511627776#64) rfl (Eg rfl rfl id) eV) ?_
  refine Y1 (Yv.pickOr (t := .const (.bool true)) rfl eV (Eg rfl rfl id)) (nl ?_)
  refine AW.cond rfl (fun h0t => ?_) (fun h0f => ?_)
  ·try replace h0t := odt h0t
   refine AW.region ?_
   refine ym ?_
   refine Y1 (Yv.remW (b := 1099511562241#64) rfl (E rfl rfl) (E rfl rfl) (by decide)) ?_
   refine Y1 (Yv.addW (a := 65536#64) rfl eV eV) ?_
   refine ya ?_
   exact ⟨_, clampW h0, (su sn), rfl⟩
  try replace h0f := odf h0f
  refine AW.skip ?_
  exact ⟨h0, keepW h0f, (su sn), rfl⟩
 rintro y hy
 refine rs (ym ?_)
 refine AWL.callAll rfl rfl (B rfl) rfl ce_7 (E rfl rfl) (evsC (E rfl rfl) evs0) (begun7 y hy.2) ?_
 rintro t23 S23 ⟨L, m2, q2, mR, rfl, hbs, hde, hRe, hq2, hst2, rfl⟩
 refine ya ?_
 have hpr2 : m2.c.prog = gcP := by rw [c_end hde]; exact hRe.prog
 obtain ⟨g0, g1, g2, g3, g4⟩ := st_cells y (smallB y) (fun _ => 0#64)
 have hw0 : wordM m2 268435456#64 = botW y := (word_k hde hRe 0 (by decide) (by decide)).trans g0
 have hw1 : wordM m2 268435464#64 = botW y := (word_k hde hRe 1 (by decide) (by decide)).trans g1
 have hw2 : wordM m2 268435472#64 = endW y (smallB y) := (word_k hde hRe 2 (by decide) (by decide)).trans g2
 have hw3 : wordM m2 268435480#64 = 1#64 := (word_k hde hRe 3 (by decide) (by decide)).trans g3
 refine AW.seq ?_
 refine rs (ym ?_)
 refine Y1 (Yv.eqlNilP rfl pn_23 eV) (nl ?_)
 refine AW.cond rfl (fun h1t => ?_) (fun h1f => ?_)
 ·try replace h1t := odt h1t
  cases h1t
 try replace h1f := odf h1f
 refine AW.skip ?_
 refine rs (ym ?_)
 refine AWL.callAll rfl rfl (B rfl) rfl ce_8 (E rfl rfl) (evsC (E rfl rfl) (evsC (E rfl rfl) evs0)) ((Word8 L gcP gc_ok gc_in m2 q2 hpr2 hq2 (268435456#64)).mono (fun t S hh => by rw [hw0] at hh; exact hh)) ?_
 rintro t27 S27 ⟨rfl, rfl⟩
 refine ya ?_
 refine rs (ym ?_)
 refine AWL.callAll rfl rfl (B rfl) rfl ce_8 (E rfl rfl) (evsC (E rfl rfl) (evsC (E rfl rfl) evs0)) ((Word8 L gcP gc_ok gc_in m2 q2 hpr2 hq2 (268435464#64)).mono (fun t S hh => by rw [hw1] at hh; exact hh)) ?_
 rintro t29 S29 ⟨rfl, rfl⟩
 refine ya ?_
 refine rs (ym ?_)
 refine AWL.callAll rfl rfl (B rfl) rfl ce_8 (E rfl rfl) (evsC (E rfl rfl) (evsC (E rfl rfl) evs0)) ((Word8 L gcP gc_ok gc_in m2 q2 hpr2 hq2 (268435472#64)).mono (fun t S hh => by rw [hw2] at hh; exact hh)) ?_
 rintro t31 S31 ⟨rfl, rfl⟩
 refine ya ?_
 refine rs (ym ?_)
 refine Y1 (Yv.quoW (b := 8#64) rfl (E rfl rfl) (E rfl rfl) (by decide)) ?_
 refine ya ?_
 refine AW.mid (α := Wd64) (fun z => [(3, true, zw y), (4, true, .v (.pointer (some ⟨L.s, 0, none⟩))), (5, true, zw (botW y)), (6, true, zw (botW y)), (7, true, zw (endW y (smallB y))), (8, true, zw z)]) (fun _ => (DP L m2 q2)) (fun z => z.toNat = min (y.toNat / 8) 16777216) ?_ ?_
 ·refine rs (ym ?_)
  refine Y1 (Yv.gtrW (b := 16777216#64) rfl eV eV) (nl ?_)
  refine AW.cond rfl (fun h2t => ?_) (fun h2f => ?_)
  ·try replace h2t := odt h2t
   refine AW.region ?_
   refine ya ?_
   exact ⟨16777216#64, roomA h2t, (su (su (su (su (su (su sn)))))), rfl⟩
  try replace h2f := odf h2f
  refine AW.skip ?_
  exact ⟨_, roomB h2f, (su (su (su (su (su (su sn)))))), rfl⟩
 rintro z hz
 refine AW.seq ?_
 refine rs (ym ?_)
 refine ym ?_
 refine Y1 (Yv.neqW rfl eV eV) ?_
 refine ym ?_
 refine gF (Yv.move rfl eV) ?_
 refine gF (Yv.lssW (b := 1073741824#64) rfl (Eg rfl rfl id) eV) ?_
 refine Y1 (Yv.pickOr (t := .const (.bool true)) rfl eV (Eg rfl rfl id)) ?_
 refine ym ?_
 refine gF (Yv.move rfl eV) ?_
 refine gF (Yv.move rfl eV) ?_
 refine gF (Yv.lssW rfl (Eg rfl rfl id) (Eg rfl rfl id)) ?_
 refine Y1 (Yv.pickOr (t := .const (.bool true)) rfl eV (Eg rfl rfl id)) ?_
 refine ym ?_
 refine gF (Yv.move rfl eV) ?_
 refine gF (Yv.subW (b := 1073741824#64) rfl (Eg rfl rfl id) eV) ?_
 refine gF (Yv.move rfl eV) ?_
 refine gF (Yv.gtrW rfl (Eg rfl rfl id) (Eg rfl rfl id)) ?_
 refine Y1 (Yv.pickOr (t := .const (.bool true)) rfl eV (Eg rfl rfl id)) ?_
 refine ym ?_
 refine gF (Yv.move rfl eV) ?_
 refine gF (Yv.move rfl eV) ?_
 refine gF (Yv.subW rfl (Eg rfl rfl id) (Eg rfl rfl id)) ?_
 refine gF (Yv.move rfl eV) ?_
 refine gF (Yv.subW (b := 64#64) rfl (Eg rfl rfl id) eV) ?_
 refine gF (Yv.lssW rfl (Eg rfl rfl id) (Eg rfl rfl id)) ?_
 refine Y1 (Yv.pickOr (t := .const (.bool true)) rfl eV (Eg rfl rfl id)) ?_
 refine ym ?_
 refine gF (Yv.move rfl eV) ?_
 refine gF (Yv.remW (b := 8#64) rfl (Eg rfl rfl id) (E rfl rfl) (by decide)) ?_
 refine gF (Yv.neqW (b := 0#64) rfl (Eg rfl rfl id) eV) ?_
 refine Y1 (Yv.pickOr (t := .const (.bool true)) rfl eV (Eg rfl rfl id)) (nl ?_)
 refine AW.cond rfl (fun h3t => ?_) (fun h3f => ?_)
 ·try replace h3t := odt h3t
  exfalso; exact allF (y := y) hy hz h3t
 try replace h3f := odf h3f
 refine AW.skip ?_
 refine AW.seq ?_
 refine ra ?_
 refine AW.block ?_
 refine AW.loop (fun (j : Nat) => [(3, true, zw y), (4, true, .v (.pointer (some ⟨L.s, 0, none⟩))), (5, true, zw (botW y)), (6, true, zw (botW y)), (7, true, zw (endW y (smallB y))), (9, true, zw (wI (j : Int)))]) (fun (j : Nat) => (DP L m2 q2)) (fun (j : Nat) => j ≤ 8) (fun (j : Nat) => 8 - j) 0 ?_ ?_ ?_ ?_
 ·exact Nat.zero_le _
 ·exact (su (su (su (su (su (su sn))))))
 ·rfl
 intro j hinv
 refine AW.seq ?_
 refine rs (ym ?_)
 refine Y1 (Yv.lssW (b := 8#64) rfl eV eV) (nl ?_)
 refine AW.cond rfl (fun h4t => ?_) (fun h4f => ?_)
 ·try replace h4t := odt h4t
  have hj := (lt8 hinv).1 h4t
  refine AW.skip ?_
  refine AW.seq ?_
  refine AW.block ?_
  have hwj : wordM m2 (268435488#64 + 16#64 * wI (j : Int)) = 16777227#64 := (word_k hde hRe (4 + 2 * j) (by omega) (exn_at hj).1).trans (g4 j hj).1
  refine rs (ym ?_)
  refine ym ?_
  refine Y1 (Yv.mulW (a := 16#64) rfl eV eV) ?_
  refine Y1 (Yv.addW (a := 268435488#64) rfl eV eV) ?_
  refine AWL.callAll rfl rfl (B rfl) rfl ce_8 (E rfl rfl) (evsC (E rfl rfl) (evsC (E rfl rfl) evs0)) ((Word8 L gcP gc_ok gc_in m2 q2 hpr2 hq2 ((268435488#64 + 16#64 * wI (j : Int)))).mono (fun t S hh => by rw [hwj] at hh; exact hh)) ?_
  rintro t75 S75 ⟨rfl, rfl⟩
  refine Y1 (Yv.buildS rfl sh_28 (evpC eV evp0) (fun _ => rfl)) ?_
  refine AWL.buildSliceE rfl rfl (B rfl) rfl el_29 (B rfl) rfl (evsC (E rfl rfl) evs0) nB rfl rfl ?_
  refine Y1 (Yv.buildS rfl sh_31 (evpC eV (evpC eV evp0)) (fun _ => rfl)) ?_
  refine AWL.callT rfl rfl (B rfl) rfl ce_9 (E rfl rfl) (evsC (E rfl rfl) evs0) (Header9c) ?_
  rintro t79 S79 rfl
  refine Y1 (Yv.neqW rfl eV eV) (nl ?_)
  refine AW.cond rfl (fun h5t => ?_) (fun h5f => ?_)
  ·try replace h5t := odt h5t
   exact absurd h5t (by decide)
  try replace h5f := odf h5f
  refine AW.skip ?_
  refine AW.region ?_
  refine ym ?_
  refine Y1 (Yv.addW (b := 1#64) rfl eV eV) ?_
  refine ya ?_
  exact ⟨j + 1, by omega, by omega, (su (su (su (su (su (Sub.cons rfl (by rw [wI_succ]) Sub.nil)))))), rfl⟩
 try replace h4f := odf h4f
 obtain rfl : j = 8 := by
  rcases Nat.lt_or_ge j 8 with z | z
  ·exact absurd ((lt8 hinv).2 z) h4f
  ·omega
 refine AW.exit ?_
 refine rs (ym ?_)
 refine AWL.callAll rfl rfl (B rfl) rfl ce_10 (E rfl rfl) (evsC (E rfl rfl) evs0) (Held10 L gcP gc_ok gc_in m2 q2 hpr2 hq2 (by rw [hw0, hw1])) ?_
 rintro t82 S82 ⟨rfl, rfl⟩
 refine ya ?_
 have hones := held_ones hde hRe g3 (fun k hk => (g4 k hk).2)
 refine AW.seq ?_
 refine ra ?_
 refine AW.block ?_
 refine AW.loop (fun (j : Nat) => [(10, true, .sl 1 ((heldL m2).map zw)), (11, true, zi (j : Int))]) (fun (j : Nat) => (DP L m2 q2)) (fun (j : Nat) => j ≤ 9) (fun (j : Nat) => 9 - j) 0 ?_ ?_ ?_ ?_
 ·exact Nat.zero_le _
 ·exact (su (su sn))
 ·rfl
 intro j hinv
 refine AW.seq ?_
 refine rs (ym ?_)
 refine ym ?_
 refine Y1 (Yv.lenSl rfl so_32 (B rfl) eV held9) ?_
 refine Y1 (Yv.lss rfl eV eV) (nl ?_)
 refine AW.cond rfl (fun h6t => ?_) (fun h6f => ?_)
 ·try replace h6t := odt h6t
  have hj : j < 9 := by omega
  refine AW.skip ?_
  refine AW.seq ?_
  refine AW.block ?_
  refine rs (ym ?_)
  refine ym ?_
  refine Y1 (Yv.indexSl rfl ss_32 (B rfl) eV eV (fun hg => ⟨rfl, (by first | omega | (simp only [held9]; omega))⟩)) ?_
  refine Y1 (Yv.loadRp rfl ag_22 eV (fun hg => held_at (by omega))) ?_
  refine Y1 (Yv.neqW (b := 1#64) rfl eV eV) (nl ?_)
  refine AW.cond rfl (fun h7t => ?_) (fun h7f => ?_)
  ·try replace h7t := odt h7t
   exfalso; rw [hones j hj] at h7t; exact absurd h7t (by decide)
  try replace h7f := odf h7f
  refine AW.skip ?_
  refine AW.region ?_
  refine ym ?_
  refine Y1 (Yv.addN_i64 rfl eV eV (fun hg => by omega)) ?_
  refine ya ?_
  exact ⟨j + 1, by omega, by omega, (su (su sn)), rfl⟩
 try replace h6f := odf h6f
 obtain rfl : j = 9 := by omega
 refine AW.exit ?_
 refine rs (ym ?_)
 refine Y1 (Yv.lenSl rfl so_32 (B rfl) eV held9) ?_
 refine Y1 (Yv.eql rfl eV eV) ?_
 refine ya ?_
 refine AW.ret (retI (.tmp rfl .nil) ?_)
 rfl

end Go.Proofs.YtpgbpdnmjeoeoaaGreat.G

namespace Go.Proofs.YtpgbpdnmjeoeoaaGreat
open Go Go.RowKit Go.ChangeShapes Go.WideShapes Go.ChangeAt
theorem laidOut : laidOutB Tryz.prog = true := by kernel_rfl
end Go.Proofs.YtpgbpdnmjeoeoaaGreat
namespace Go.Proofs.YtpgbpdnmjeoeoaaGreat.G
open Go.ChangeShapes Go.WideShapes Go.ChangeAt Go Go.RowKit
section
variable {H : Type} {enc : TypeId × Value → H} {w : World} {base b0 : Nat} {spare : Nat → Bool} {held : Bool} {v : Value} {d : DataW H} {p : List MemPlace}
theorem int_u64 {z : Int} (h : (Lit.int .u64 z).wf = true) : 0 ≤ z ∧ z ≤ 18446744073709551615 := by simpa [Lit.wf, IntKind.min, IntKind.max, IntKind.signed, IntKind.bits] using h
set_option maxRecDepth 100000 in
theorem open_u64 (hv : Value.okWide Tryz.prog w .any b0 22 v) (e : DataW.Trod enc Tryz.prog w base spare held 22 v d p) : ∃ a : Wd64, VRep w [] (zw a) v := by
 obtain ⟨z, rfl⟩ := okWide_int Tryz.underlying22 hv
 obtain ⟨fuel, hf⟩ := e
 obtain ⟨z', h1, _, h2⟩ := DataW.trod_int Tryz.underlying22 hf
 simp only [Value.cells, List.cons.injEq, Value.int.injEq, true_and, and_true] at h1
 subst h1
 obtain ⟨z0, z1⟩ := int_u64 h2
 refine ⟨BitVec.ofInt 64 z, ?_⟩
 have e : ((BitVec.ofInt 64 z).toNat : Int) = z := by
  rw [BitVec.toNat_ofInt]; omega
 unfold zw
 rw [e]
 exact .v _
end
end Go.Proofs.YtpgbpdnmjeoeoaaGreat.G
