/-
  CONTRACTS of the heap package: the known graph; walked by program.
-/
import Derived.Test.YtbndnmmceccbkaaWk9
import Derived.Test.YtbndnmmceccbkaaKnown
namespace Go.Proofs.Ytbndnmmceccbkaa
open Go Go.RowKit
set_option linter.unusedVariables false

set_option maxHeartbeats 400000 in
theorem loop39  :
    ACalls Try.prog 39 [] [] (fun t_ S => t_ = graphT loopG) := by
  refine ACalls.intro Try.func39 rfl Try.ntmps39 (Nat.le_of_ble_eq_true rfl) rfl fun X w0 => ?_
  refine AW.rseq ?_
  refine AWL.allocOp rfl rfl (B rfl) rfl zc_27 (fun b0 => ?_)
  refine AWL.nil ?_
  refine AW.rseq ?_
  refine AWL.y rfl rfl (B rfl) (Yv.buildS rfl sh_24 (evpC (E rfl rfl) (evpC (E rfl rfl) evp0)) (fun _ => rfl)) ?_
  refine AWL.retype (k := 1) (t' := thingT ⟨2, 0, [97, 98, 99], []⟩) rfl (Le.agg (Les.cons .refl (Les.cons .refl (Les.cons .refl (Les.cons (nil_sl (by decide)) .refl))))) ?_
  refine AWL.y rfl rfl (B rfl) (Yv.buildS rfl sh_54 (evpC (E rfl rfl) (evpC (E rfl rfl) evp0)) (fun _ => rfl)) ?_
  refine AWL.y rfl rfl (B rfl) (Yv.buildS rfl sh_54 (evpC (E rfl rfl) evp0) (fun _ => rfl)) ?_
  refine AWL.y rfl rfl (B rfl) (Yv.buildS rfl sh_54 (evpC (E rfl rfl) (evpC (E rfl rfl) evp0)) (fun _ => rfl)) ?_
  refine AWL.buildSliceE rfl rfl (B rfl) rfl el_22 (B rfl) rfl (evsC (E rfl rfl) (evsC (E rfl rfl) (evsC (E rfl rfl) evs0))) (Nat.le_of_ble_eq_true rfl) rfl rfl ?_
  refine AWL.y rfl rfl (B rfl) (Yv.buildS rfl sh_24 (evpC (E rfl rfl) (evpC (E rfl rfl) (evpC (E rfl rfl) evp0))) (fun _ => rfl)) ?_
  refine AWL.buildSliceE rfl rfl (B rfl) rfl el_25 (B rfl) rfl (evsC (E rfl rfl) (evsC (E rfl rfl) evs0)) (Nat.le_of_ble_eq_true rfl) rfl rfl ?_
  refine AWL.y rfl rfl (B rfl) (Yv.buildS rfl sh_54 (evpC (E rfl rfl) (evpC (E rfl rfl) evp0)) (fun _ => rfl)) ?_
  refine AWL.buildSliceE rfl rfl (B rfl) rfl el_22 (B rfl) rfl (evsC (E rfl rfl) evs0) (Nat.le_of_ble_eq_true rfl) rfl rfl ?_
  refine AWL.y rfl rfl (B rfl) (Yv.buildS rfl sh_27 (evpC (E rfl rfl) (evpC (E rfl rfl) evp0)) (fun _ => rfl)) ?_
  refine AWL.storeBox (i := 0) rfl rfl rfl ag_27 rfl (E rfl rfl) (E rfl rfl) rfl rfl (Nat.le_of_ble_eq_true rfl) ?_
  refine AWL.nil ?_
  refine AW.ret (retI (.cellA (i := 0) rfl ag_27 rfl rfl rfl .nil) ?_)
  rfl

set_option maxHeartbeats 1000000 in
theorem known15  :
    ACalls Try.prog 15 [] [] (fun t_ S => t_ = .v (.bool true)) := by
  refine ACalls.intro Try.func15 rfl Try.ntmps15 (Nat.le_of_ble_eq_true rfl) rfl fun X w0 => ?_
  refine AW.rseq ?_
  refine AWL.y rfl rfl (B rfl) (Yv.assign rfl (E rfl rfl)) ?_
  refine AWL.nil ?_
  refine AW.rseq ?_
  refine AWL.callT rfl rfl (B rfl) rfl ce_39 (E rfl rfl) evs0 (loop39) ?_
  rintro t7 S7 rfl
  refine AWL.callT rfl rfl (B rfl) rfl ce_25 (E rfl rfl) (evsC (E rfl rfl) (evsC (E rfl rfl) evs0)) (Lay25 loopG 4096 loopG_ok (by decide) (by decide) kb_total) ?_
  rintro t8 S8 rfl
  rw [kb_lay]
  refine AWL.y rfl rfl (B rfl) (Yv.move rfl (E rfl rfl)) ?_
  refine AWL.y rfl rfl (B rfl) (Yv.extract rfl (E rfl rfl) rfl) ?_
  refine AWL.y rfl rfl (B rfl) (Yv.extract rfl (E rfl rfl) rfl) ?_
  refine AWL.y rfl rfl (B rfl) (Yv.extract rfl (E rfl rfl) rfl) ?_
  refine AWL.y rfl rfl (B rfl) (Yv.assign rfl (E rfl rfl)) ?_
  refine AWL.y rfl rfl (B rfl) (Yv.assign rfl (E rfl rfl)) ?_
  refine AWL.y rfl rfl (B rfl) (Yv.assign rfl (E rfl rfl)) ?_
  refine AWL.nil ?_
  refine AW.rseq ?_
  refine AWL.y rfl rfl (B rfl) (Yv.move rfl (E rfl rfl)) ?_
  refine AWL.y rfl rfl (B rfl) (Yv.move rfl (E rfl rfl)) ?_
  refine AWL.callT rfl rfl (B rfl) rfl ce_27 (E rfl rfl) (evsC (E rfl rfl) (evsC (E rfl rfl) (evsC (E rfl rfl) evs0))) (Read27 kb 4096 [4112] (by rw [kb_len]; decide) (by decide) (by decide) (by decide) kb_ws) ?_
  rintro t15 S15 rfl
  rw [kb_read]
  refine AWL.y rfl rfl (B rfl) (Yv.move rfl (E rfl rfl)) ?_
  refine AWL.y rfl rfl (B rfl) (Yv.extract rfl (E rfl rfl) rfl) ?_
  refine AWL.y rfl rfl (B rfl) (Yv.extract rfl (E rfl rfl) rfl) ?_
  refine AWL.allocOp rfl rfl (B rfl) rfl zc_27 (fun b4 => ?_)
  refine AWL.storeBox (i := 0) rfl rfl rfl ag_27 rfl (E rfl rfl) (E rfl rfl) rfl rfl (Nat.le_of_ble_eq_true rfl) ?_
  refine AWL.y rfl rfl (B rfl) (Yv.assign rfl (E rfl rfl)) ?_
  refine AWL.nil ?_
  refine AW.rseqP rfl ?_
  refine AWP.one (i := 0) (by kernel_rfl) rfl ?_
  refine AWL.y rfl rfl (B rfl) (Yv.move rfl (E rfl rfl)) ?_
  refine AWL.nil ?_
  refine AWP.one (i := 1) (by kernel_rfl) rfl ?_
  refine AWL.y rfl rfl (B rfl) (Yv.eql rfl (E rfl rfl) (E rfl rfl)) ?_
  refine AWL.nil ?_
  refine AWP.one (i := 2) (by kernel_rfl) rfl ?_
  refine AWL.y rfl rfl (B rfl) (Yv.move rfl (E rfl rfl)) ?_
  refine AWL.nil ?_
  refine AWP.one (i := 3) (by kernel_rfl) rfl ?_
  refine AWL.ygT rfl rfl rfl rfl (B rfl) (Yv.move rfl (E rfl rfl)) ?_
  refine AWL.nil ?_
  refine AWP.one (i := 4) (by kernel_rfl) rfl ?_
  refine AWL.ygT rfl rfl rfl rfl (B rfl) (Yv.eql rfl (Eg rfl rfl id) (E rfl rfl)) ?_
  refine AWL.nil ?_
  refine AWP.one (i := 5) (by kernel_rfl) rfl ?_
  refine AWL.y rfl rfl (B rfl) (Yv.pickAnd rfl (E rfl rfl) (Eg rfl rfl id)) ?_
  refine AWL.nil ?_
  refine AWP.one (i := 6) (by kernel_rfl) rfl ?_
  refine AWL.y rfl rfl (B rfl) (Yv.move rfl (E rfl rfl)) ?_
  refine AWL.nil ?_
  refine AWP.one (i := 7) (by kernel_rfl) rfl ?_
  refine AWL.ygT rfl rfl rfl rfl (B rfl) (Yv.move rfl (E rfl rfl)) ?_
  refine AWL.nil ?_
  refine AWP.one (i := 8) (by kernel_rfl) rfl ?_
  refine AWL.ygT rfl rfl rfl rfl (B rfl) (Yv.lenSl rfl so_40 (B rfl) (Eg rfl rfl id) len_u8s) ?_
  refine AWL.nil ?_
  refine AWP.one (i := 9) (by kernel_rfl) rfl ?_
  refine AWL.ygT rfl rfl rfl rfl (B rfl) (Yv.eql rfl (Eg rfl rfl id) (E rfl rfl)) ?_
  refine AWL.nil ?_
  refine AWP.one (i := 10) (by kernel_rfl) rfl ?_
  refine AWL.y rfl rfl (B rfl) (Yv.pickAnd rfl (E rfl rfl) (Eg rfl rfl id)) ?_
  refine AWL.nil ?_
  refine AWP.one (i := 11) (by kernel_rfl) rfl ?_
  refine AWL.y rfl rfl (B rfl) (Yv.move rfl (E rfl rfl)) ?_
  refine AWL.nil ?_
  refine AWP.one (i := 12) (by kernel_rfl) rfl ?_
  refine AWL.ygT rfl rfl rfl rfl (B rfl) (Yv.move rfl (E rfl rfl)) ?_
  refine AWL.nil ?_
  refine AWP.one (i := 13) (by kernel_rfl) rfl ?_
  refine AWL.ygT rfl rfl rfl rfl (B rfl) (Yv.lenSl rfl so_41 (B rfl) (Eg rfl rfl id) len_zu) ?_
  refine AWL.nil ?_
  refine AWP.one (i := 14) (by kernel_rfl) rfl ?_
  refine AWL.ygT rfl rfl rfl rfl (B rfl) (Yv.eql rfl (Eg rfl rfl id) (E rfl rfl)) ?_
  refine AWL.nil ?_
  refine AWP.one (i := 15) (by kernel_rfl) rfl ?_
  refine AWL.y rfl rfl (B rfl) (Yv.pickAnd rfl (E rfl rfl) (Eg rfl rfl id)) ?_
  refine AWL.nil ?_
  refine AWP.one (i := 16) (by kernel_rfl) rfl ?_
  refine AWL.y rfl rfl (B rfl) (Yv.move rfl (E rfl rfl)) ?_
  refine AWL.nil ?_
  refine AWP.one (i := 17) (by kernel_rfl) rfl ?_
  refine AWL.ygT rfl rfl rfl rfl (B rfl) (Yv.move rfl (E rfl rfl)) ?_
  refine AWL.nil ?_
  refine AWP.one (i := 18) (by kernel_rfl) rfl ?_
  refine AWL.ygT rfl rfl rfl rfl (B rfl) (Yv.indexSl (j := 0) rfl ss_41 (B rfl) (E rfl rfl) (Eg rfl rfl id) (fun hg => ⟨rfl, by decide +kernel⟩)) ?_
  refine AWL.nil ?_
  refine AWP.one (i := 19) (by kernel_rfl) rfl ?_
  refine AWL.ygT rfl rfl rfl rfl (B rfl) (Yv.loadRp rfl ag_29 (Eg rfl rfl id) (fun _ => rfl)) ?_
  refine AWL.nil ?_
  refine AWP.one (i := 20) (by kernel_rfl) rfl ?_
  refine AWL.ygT rfl rfl rfl rfl (B rfl) (Yv.eql rfl (Eg rfl rfl id) (E rfl rfl)) ?_
  refine AWL.nil ?_
  refine AWP.one (i := 21) (by kernel_rfl) rfl ?_
  refine AWL.y rfl rfl (B rfl) (Yv.pickAnd rfl (E rfl rfl) (Eg rfl rfl id)) ?_
  refine AWL.nil ?_
  refine AWP.one (i := 22) (by kernel_rfl) rfl ?_
  refine AWL.y rfl rfl (B rfl) (Yv.move rfl (E rfl rfl)) ?_
  refine AWL.nil ?_
  refine AWP.one (i := 23) (by kernel_rfl) rfl ?_
  refine AWL.ygT rfl rfl rfl rfl (B rfl) (Yv.move rfl (E rfl rfl)) ?_
  refine AWL.nil ?_
  refine AWP.one (i := 24) (by kernel_rfl) rfl ?_
  refine AWL.ygT rfl rfl rfl rfl (B rfl) (Yv.indexSl (j := 0) rfl ss_40 (B rfl) (E rfl rfl) (Eg rfl rfl id) (fun hg => ⟨rfl, by decide +kernel⟩)) ?_
  refine AWL.nil ?_
  refine AWP.one (i := 25) (by kernel_rfl) rfl ?_
  refine AWL.ygT rfl rfl rfl rfl (B rfl) (Yv.loadRp rfl ag_5 (Eg rfl rfl id) (fun _ => rfl)) ?_
  refine AWL.nil ?_
  refine AWP.one (i := 26) (by kernel_rfl) rfl ?_
  refine AWL.ygT rfl rfl rfl rfl (B rfl) (Yv.eql rfl (Eg rfl rfl id) (E rfl rfl)) ?_
  refine AWL.nil ?_
  refine AWP.one (i := 27) (by kernel_rfl) rfl ?_
  refine AWL.y rfl rfl (B rfl) (Yv.pickAnd rfl (E rfl rfl) (Eg rfl rfl id)) ?_
  refine AWL.nil ?_
  refine AWP.one (i := 28) (by kernel_rfl) rfl ?_
  refine AWL.y rfl rfl (B rfl) (Yv.move rfl (E rfl rfl)) ?_
  refine AWL.nil ?_
  refine AWP.one (i := 29) (by kernel_rfl) rfl ?_
  refine AWL.ygT rfl rfl rfl rfl (B rfl) (Yv.fieldBox rfl fo_27_0 (E rfl rfl)) ?_
  refine AWL.nil ?_
  refine AWP.one (i := 30) (by kernel_rfl) rfl ?_
  refine AWL.ygT rfl rfl rfl rfl (B rfl) (Yv.loadBox rfl ag_25 (i := 0) rfl (Eg rfl rfl id) rfl) ?_
  refine AWL.nil ?_
  refine AWP.one (i := 31) (by kernel_rfl) rfl ?_
  refine AWL.ygT rfl rfl rfl rfl (B rfl) (Yv.lenSl rfl so_25 (B rfl) (Eg rfl rfl id) len_things) ?_
  refine AWL.nil ?_
  refine AWP.one (i := 32) (by kernel_rfl) rfl ?_
  refine AWL.ygT rfl rfl rfl rfl (B rfl) (Yv.eql rfl (Eg rfl rfl id) (E rfl rfl)) ?_
  refine AWL.nil ?_
  refine AWP.one (i := 33) (by kernel_rfl) rfl ?_
  refine AWL.y rfl rfl (B rfl) (Yv.pickAnd rfl (E rfl rfl) (Eg rfl rfl id)) ?_
  refine AWL.nil ?_
  refine AWP.one (i := 34) (by kernel_rfl) rfl ?_
  refine AWL.y rfl rfl (B rfl) (Yv.move rfl (E rfl rfl)) ?_
  refine AWL.nil ?_
  refine AWP.one (i := 35) (by kernel_rfl) rfl ?_
  refine AWL.ygT rfl rfl rfl rfl (B rfl) (Yv.fieldBox rfl fo_27_0 (E rfl rfl)) ?_
  refine AWL.nil ?_
  refine AWP.one (i := 36) (by kernel_rfl) rfl ?_
  refine AWL.ygT rfl rfl rfl rfl (B rfl) (Yv.loadBox rfl ag_25 (i := 0) rfl (Eg rfl rfl id) rfl) ?_
  refine AWL.nil ?_
  refine AWP.one (i := 37) (by kernel_rfl) rfl ?_
  refine AWL.ygT rfl rfl rfl rfl (B rfl) (Yv.indexSl (j := 0) rfl ss_25 (B rfl) (E rfl rfl) (Eg rfl rfl id) (fun hg => ⟨rfl, by decide +kernel⟩)) ?_
  refine AWL.nil ?_
  refine AWP.one (i := 38) (by kernel_rfl) rfl ?_
  refine AWL.ygT rfl rfl rfl rfl (B rfl) (Yv.fieldRp rfl fo_24_1 (Eg rfl rfl id)) ?_
  refine AWL.nil ?_
  refine AWP.one (i := 39) (by kernel_rfl) rfl ?_
  refine AWL.ygT rfl rfl rfl rfl (B rfl) (Yv.loadRp rfl ag_3 (Eg rfl rfl id) (fun _ => rfl)) ?_
  refine AWL.nil ?_
  refine AWP.one (i := 40) (by kernel_rfl) rfl ?_
  refine AWL.ygT rfl rfl rfl rfl (B rfl) (Yv.eql rfl (Eg rfl rfl id) (E rfl rfl)) ?_
  refine AWL.nil ?_
  refine AWP.one (i := 41) (by kernel_rfl) rfl ?_
  refine AWL.y rfl rfl (B rfl) (Yv.pickAnd rfl (E rfl rfl) (Eg rfl rfl id)) ?_
  refine AWL.nil ?_
  refine AWP.one (i := 42) (by kernel_rfl) rfl ?_
  refine AWL.y rfl rfl (B rfl) (Yv.move rfl (E rfl rfl)) ?_
  refine AWL.nil ?_
  refine AWP.one (i := 43) (by kernel_rfl) rfl ?_
  refine AWL.ygT rfl rfl rfl rfl (B rfl) (Yv.fieldBox rfl fo_27_0 (E rfl rfl)) ?_
  refine AWL.nil ?_
  refine AWP.one (i := 44) (by kernel_rfl) rfl ?_
  refine AWL.ygT rfl rfl rfl rfl (B rfl) (Yv.loadBox rfl ag_25 (i := 0) rfl (Eg rfl rfl id) rfl) ?_
  refine AWL.nil ?_
  refine AWP.one (i := 45) (by kernel_rfl) rfl ?_
  refine AWL.ygT rfl rfl rfl rfl (B rfl) (Yv.indexSl (j := 1) rfl ss_25 (B rfl) (E rfl rfl) (Eg rfl rfl id) (fun hg => ⟨rfl, by decide +kernel⟩)) ?_
  refine AWL.nil ?_
  refine AWP.one (i := 46) (by kernel_rfl) rfl ?_
  refine AWL.ygT rfl rfl rfl rfl (B rfl) (Yv.fieldRp rfl fo_24_2 (Eg rfl rfl id)) ?_
  refine AWL.nil ?_
  refine AWP.one (i := 47) (by kernel_rfl) rfl ?_
  refine AWL.ygT rfl rfl rfl rfl (B rfl) (Yv.loadRp rfl ag_9 (Eg rfl rfl id) (fun _ => rfl)) ?_
  refine AWL.nil ?_
  refine AWP.one (i := 48) (by kernel_rfl) rfl ?_
  refine AWL.ygT rfl rfl rfl rfl (B rfl) (Yv.eqlL rfl (Eg rfl rfl id) (E rfl rfl)) ?_
  refine AWL.nil ?_
  refine AWP.one (i := 49) (by kernel_rfl) rfl ?_
  refine AWL.y rfl rfl (B rfl) (Yv.pickAnd rfl (E rfl rfl) (Eg rfl rfl id)) ?_
  refine AWL.nil ?_
  refine AWP.one (i := 50) (by kernel_rfl) rfl ?_
  refine AWL.y rfl rfl (B rfl) (Yv.move rfl (E rfl rfl)) ?_
  refine AWL.nil ?_
  refine AWP.two (i := 51) (j := 52) (by kernel_rfl) rfl rfl ?_ ?_
  ·
    refine AWL.unguard rfl rfl rfl (by decide +kernel) ?_
    refine AWL.y rfl rfl (B rfl) (Yv.loadBoxA rfl ag_27 (i := 0) rfl (E rfl rfl) rfl rfl) ?_
    refine AWL.nil ?_
    refine AWP.one (i := 52) (by kernel_rfl) rfl ?_
    refine AWL.unguard rfl rfl rfl (by decide +kernel) ?_
    refine AWL.callT rfl rfl (B rfl) rfl ce_39 (E rfl rfl) evs0 (loop39) ?_
    rintro t70 S70 rfl
    refine AWL.nil ?_
    refine AWP.one (i := 53) (by kernel_rfl) rfl ?_
    refine AWL.unguard rfl rfl rfl (by decide +kernel) ?_
    refine AWL.callP rfl rfl (B rfl) rfl ce_21 (E rfl rfl) (evsC (E rfl rfl) (evsC (E rfl rfl) evs0)) (Same21 loopC loopG loopC_ok loopG_ok) (fun t S h => h) ?_
    refine AWL.nil ?_
    refine AWP.one (i := 54) (by kernel_rfl) rfl ?_
    refine AWL.y rfl rfl (B rfl) (Yv.pickAnd rfl (E rfl rfl) (E rfl rfl)) ?_
    refine AWL.nil ?_
    refine AWP.one (i := 55) (by kernel_rfl) rfl ?_
    refine AWL.y rfl rfl (B rfl) (Yv.move rfl (E rfl rfl)) ?_
    refine AWL.nil ?_
    refine AWP.one (i := 56) (by kernel_rfl) rfl ?_
    refine AWL.unguard rfl rfl rfl (by decide +kernel) ?_
    refine AWL.callT rfl rfl (B rfl) rfl ce_39 (E rfl rfl) evs0 (loop39) ?_
    rintro t74 S74 rfl
    refine AWL.nil ?_
    refine AWP.one (i := 57) (by kernel_rfl) rfl ?_
    refine AWL.unguard rfl rfl rfl (by decide +kernel) ?_
    refine AWL.callP rfl rfl (B rfl) rfl ce_13 (E rfl rfl) (evsC (E rfl rfl) evs0) (Check13 loopG loopG_ok) (fun t S h => h) ?_
    refine AWL.nil ?_
    refine AWP.one (i := 58) (by kernel_rfl) rfl ?_
    refine AWL.unguard rfl rfl rfl (by decide +kernel) ?_
    refine AWL.y rfl rfl (B rfl) (Yv.eql rfl (E rfl rfl) (E rfl rfl)) ?_
    refine AWL.nil ?_
    refine AWP.one (i := 59) (by kernel_rfl) rfl ?_
    refine AWL.y rfl rfl (B rfl) (Yv.pickAnd rfl (E rfl rfl) (E rfl rfl)) ?_
    refine AWL.nil ?_
    refine AWP.one (i := 60) (by kernel_rfl) rfl ?_
    refine AWL.y rfl rfl (B rfl) (Yv.assign rfl (E rfl rfl)) ?_
    refine AWL.nil ?_
    refine AWP.done (by kernel_rfl) ?_
    refine AW.ret (retI (.tmp rfl .nil) ?_)
    rw [kb_same, kb_check]
    refine congrArg (fun q => T.v (.bool q)) ?_
    decide +kernel
  ·
    refine AWL.unguard rfl rfl rfl (by decide +kernel) ?_
    refine AWL.callT rfl rfl (B rfl) rfl ce_39 (E rfl rfl) evs0 (loop39) ?_
    rintro t70 S70 rfl
    refine AWL.nil ?_
    refine AWP.one (i := 51) (by kernel_rfl) rfl ?_
    refine AWL.unguard rfl rfl rfl (by decide +kernel) ?_
    refine AWL.y rfl rfl (B rfl) (Yv.loadBoxA rfl ag_27 (i := 0) rfl (E rfl rfl) rfl rfl) ?_
    refine AWL.nil ?_
    refine AWP.one (i := 53) (by kernel_rfl) rfl ?_
    refine AWL.unguard rfl rfl rfl (by decide +kernel) ?_
    refine AWL.callP rfl rfl (B rfl) rfl ce_21 (E rfl rfl) (evsC (E rfl rfl) (evsC (E rfl rfl) evs0)) (Same21 loopC loopG loopC_ok loopG_ok) (fun t S h => h) ?_
    refine AWL.nil ?_
    refine AWP.one (i := 54) (by kernel_rfl) rfl ?_
    refine AWL.y rfl rfl (B rfl) (Yv.pickAnd rfl (E rfl rfl) (E rfl rfl)) ?_
    refine AWL.nil ?_
    refine AWP.one (i := 55) (by kernel_rfl) rfl ?_
    refine AWL.y rfl rfl (B rfl) (Yv.move rfl (E rfl rfl)) ?_
    refine AWL.nil ?_
    refine AWP.one (i := 56) (by kernel_rfl) rfl ?_
    refine AWL.unguard rfl rfl rfl (by decide +kernel) ?_
    refine AWL.callT rfl rfl (B rfl) rfl ce_39 (E rfl rfl) evs0 (loop39) ?_
    rintro t74 S74 rfl
    refine AWL.nil ?_
    refine AWP.one (i := 57) (by kernel_rfl) rfl ?_
    refine AWL.unguard rfl rfl rfl (by decide +kernel) ?_
    refine AWL.callP rfl rfl (B rfl) rfl ce_13 (E rfl rfl) (evsC (E rfl rfl) evs0) (Check13 loopG loopG_ok) (fun t S h => h) ?_
    refine AWL.nil ?_
    refine AWP.one (i := 58) (by kernel_rfl) rfl ?_
    refine AWL.unguard rfl rfl rfl (by decide +kernel) ?_
    refine AWL.y rfl rfl (B rfl) (Yv.eql rfl (E rfl rfl) (E rfl rfl)) ?_
    refine AWL.nil ?_
    refine AWP.one (i := 59) (by kernel_rfl) rfl ?_
    refine AWL.y rfl rfl (B rfl) (Yv.pickAnd rfl (E rfl rfl) (E rfl rfl)) ?_
    refine AWL.nil ?_
    refine AWP.one (i := 60) (by kernel_rfl) rfl ?_
    refine AWL.y rfl rfl (B rfl) (Yv.assign rfl (E rfl rfl)) ?_
    refine AWL.nil ?_
    refine AWP.done (by kernel_rfl) ?_
    refine AW.ret (retI (.tmp rfl .nil) ?_)
    rw [kb_same, kb_check]
    refine congrArg (fun q => T.v (.bool q)) ?_
    decide +kernel

end Go.Proofs.Ytbndnmmceccbkaa
