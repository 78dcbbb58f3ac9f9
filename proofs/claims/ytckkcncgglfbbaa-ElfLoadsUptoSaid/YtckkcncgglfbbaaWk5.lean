/-
  CONTRACTS of the elf package: one known image; walked by program.
-/
import Derived.Test.YtckkcncgglfbbaaWk4
import Derived.Test.YtckkcncgglfbbaaKnown
namespace Go.Proofs.Ytckkcncgglfbbaa
open Go Go.RowKit
set_option linter.unusedVariables false

set_option maxHeartbeats 400000 in
theorem little26  :
    ACalls Try.prog 26 [] [] (fun t S => t = imgT lit) := by
  refine ACalls.intro Try.func26 rfl Try.ntmps26 (Nat.le_of_ble_eq_true rfl) rfl fun X w0 => ?_
  refine AW.rseq ?_
  refine AWL.allocOp rfl rfl (B rfl) rfl zc_25 (fun b0 => ?_)
  refine AWL.nil ?_
  refine AW.rseq ?_
  refine AWL.buildSlice1 rfl rfl (B rfl) rfl el_27 rfl (evsC (E rfl rfl) evs0) (Nat.le_of_ble_eq_true rfl) rfl rfl ?_
  refine AWL.y rfl rfl (B rfl) (Yv.buildS rfl sh_42 (evpC (E rfl rfl) (evpC (E rfl rfl) (evpC (E rfl rfl) (evpC (E rfl rfl) evp0)))) (fun _ => rfl)) ?_
  refine AWL.buildSliceE rfl rfl (B rfl) rfl el_23 (B rfl) rfl (evsC (E rfl rfl) evs0) (Nat.le_of_ble_eq_true rfl) rfl rfl ?_
  refine AWL.y rfl rfl (B rfl) (Yv.buildS rfl sh_25 (evpC (E rfl rfl) (evpC (E rfl rfl) evp0)) (fun _ => rfl)) ?_
  refine AWL.storeBox (i := 0) rfl rfl rfl ag_25 rfl (E rfl rfl) (E rfl rfl) rfl rfl (Nat.le_of_ble_eq_true rfl) ?_
  refine AWL.nil ?_
  refine AW.ret (retI (.cellA (i := 0) rfl ag_25 rfl rfl rfl .nil) ?_)
  rfl

set_option maxHeartbeats 400000 in
theorem known14  :
    ACalls Try.prog 14 [] [] (fun t S => t = .v (.bool true)) := by
  obtain ⟨bs, hw, hlen, h0, h4, hload, hck⟩ := lit_facts
  refine ACalls.intro Try.func14 rfl Try.ntmps14 (Nat.le_of_ble_eq_true rfl) rfl fun X w0 => ?_
  refine AW.rseq ?_
  refine AWL.y rfl rfl (B rfl) (Yv.assign rfl (E rfl rfl)) ?_
  refine AWL.nil ?_
  refine AW.rseq ?_
  refine AWL.callT rfl rfl (B rfl) rfl ce_26 (E rfl rfl) evs0 (little26) ?_
  rintro t6 S6 rfl
  refine AWL.call rfl rfl (B rfl) rfl ce_10 (E rfl rfl) (evsC (E rfl rfl) evs0) (S1 := []) (S2 := _) rfl (Write10 lit lit_ok) ?_
  rintro t7 S7 ⟨A7, c7, rfl, rfl⟩
  rw [hw, hck, hlen]
  refine AWL.y rfl rfl (B rfl) (Yv.move rfl (E rfl rfl)) ?_
  refine AWL.y rfl rfl (B rfl) (Yv.extract rfl (E rfl rfl) rfl) ?_
  refine AWL.y rfl rfl (B rfl) (Yv.extract rfl (E rfl rfl) rfl) ?_
  refine AWL.y rfl rfl (B rfl) (Yv.assign rfl (E rfl rfl)) ?_
  refine AWL.y rfl rfl (B rfl) (Yv.assign rfl (E rfl rfl)) ?_
  refine AWL.nil ?_
  refine AW.freeze 0 1 rfl (B rfl) rfl ?_
  refine AW.rseq ?_
  refine AWL.y rfl rfl (B rfl) (Yv.move rfl (E rfl rfl)) ?_
  refine AWL.callT rfl rfl (B rfl) rfl ce_16 (E rfl rfl) (evsC (E rfl rfl) evs0) (Load16 bs (by omega)) ?_
  rintro t12 S12 rfl
  rw [hload]
  refine AWL.y rfl rfl (B rfl) (Yv.move rfl (E rfl rfl)) ?_
  refine AWL.y rfl rfl (B rfl) (Yv.extract rfl (E rfl rfl) rfl) ?_
  refine AWL.y rfl rfl (B rfl) (Yv.extract rfl (E rfl rfl) rfl) ?_
  refine AWL.allocOp rfl rfl (B rfl) rfl zc_25 (fun b3 => ?_)
  refine AWL.storeBox (i := 0) rfl rfl rfl ag_25 rfl (E rfl rfl) (E rfl rfl) rfl rfl (Nat.le_of_ble_eq_true rfl) ?_
  refine AWL.y rfl rfl (B rfl) (Yv.assign rfl (E rfl rfl)) ?_
  refine AWL.nil ?_
  refine AW.rseqP rfl ?_
  refine AWP.one (i := 0) (by kernel_rfl) rfl ?_
  refine AWL.y rfl rfl (B rfl) (Yv.move rfl (E rfl rfl)) ?_
  refine AWL.nil ?_
  refine AWP.one (i := 1) (by kernel_rfl) rfl ?_
  refine AWL.y rfl rfl (B rfl) (Yv.eql rfl (E rfl rfl) (E rfl rfl)) ?_
  refine AWL.nil ?_
  refine AWP.one (i := 2) (by kernel_rfl) rfl ?_
  refine AWL.y rfl rfl (B rfl) (Yv.move rfl (E rfl rfl)) ?_
  refine AWL.nil ?_
  refine AWP.one (i := 3) (by kernel_rfl) rfl ?_
  refine AWL.ygT rfl rfl rfl rfl (B rfl) (Yv.move rfl (E rfl rfl)) ?_
  refine AWL.nil ?_
  refine AWP.one (i := 4) (by kernel_rfl) rfl ?_
  refine AWL.ygT rfl rfl rfl rfl (B rfl) (Yv.eql rfl (Eg rfl rfl id) (E rfl rfl)) ?_
  refine AWL.nil ?_
  refine AWP.one (i := 5) (by kernel_rfl) rfl ?_
  refine AWL.y rfl rfl (B rfl) (Yv.pickAnd rfl (E rfl rfl) (Eg rfl rfl id)) ?_
  refine AWL.nil ?_
  refine AWP.one (i := 6) (by kernel_rfl) rfl ?_
  refine AWL.y rfl rfl (B rfl) (Yv.move rfl (E rfl rfl)) ?_
  refine AWL.nil ?_
  refine AWP.one (i := 7) (by kernel_rfl) rfl ?_
  refine AWL.ygT rfl rfl rfl rfl (B rfl) (Yv.move rfl (E rfl rfl)) ?_
  refine AWL.nil ?_
  refine AWP.one (i := 8) (by kernel_rfl) rfl ?_
  refine AWL.ygT rfl rfl rfl rfl (B rfl) (Yv.lenSl rfl so_27 (B rfl) (Eg rfl rfl id) len_u8s) ?_
  refine AWL.nil ?_
  refine AWP.one (i := 9) (by kernel_rfl) rfl ?_
  refine AWL.ygT rfl rfl rfl rfl (B rfl) (Yv.eql rfl (Eg rfl rfl id) (E rfl rfl)) ?_
  refine AWL.nil ?_
  refine AWP.one (i := 10) (by kernel_rfl) rfl ?_
  refine AWL.y rfl rfl (B rfl) (Yv.pickAnd rfl (E rfl rfl) (Eg rfl rfl id)) ?_
  refine AWL.nil ?_
  refine AWP.one (i := 11) (by kernel_rfl) rfl ?_
  refine AWL.y rfl rfl (B rfl) (Yv.move rfl (E rfl rfl)) ?_
  refine AWL.nil ?_
  refine AWP.one (i := 12) (by kernel_rfl) rfl ?_
  refine AWL.ygT rfl rfl rfl rfl (B rfl) (Yv.move rfl (E rfl rfl)) ?_
  refine AWL.nil ?_
  refine AWP.one (i := 13) (by kernel_rfl) rfl ?_
  refine AWL.ygT rfl rfl rfl rfl (B rfl) (Yv.indexSl (j := 0) rfl ss_27 (B rfl) (E rfl rfl) (Eg rfl rfl id) (fun hg => ⟨rfl, by simp only [len_u8s]; omega⟩)) ?_
  refine AWL.nil ?_
  refine AWP.one (i := 14) (by kernel_rfl) rfl ?_
  refine AWL.ygT rfl rfl rfl rfl (B rfl) (Yv.loadRp rfl ag_5 (Eg rfl rfl id) (fun hg => u8_get (by omega))) ?_
  refine AWL.nil ?_
  refine AWP.one (i := 15) (by kernel_rfl) rfl ?_
  refine AWL.ygT rfl rfl rfl rfl (B rfl) (Yv.eql rfl (Eg rfl rfl id) (E rfl rfl)) ?_
  refine AWL.nil ?_
  refine AWP.one (i := 16) (by kernel_rfl) rfl ?_
  refine AWL.y rfl rfl (B rfl) (Yv.pickAnd rfl (E rfl rfl) (Eg rfl rfl id)) ?_
  refine AWL.nil ?_
  refine AWP.one (i := 17) (by kernel_rfl) rfl ?_
  refine AWL.y rfl rfl (B rfl) (Yv.move rfl (E rfl rfl)) ?_
  refine AWL.nil ?_
  refine AWP.one (i := 18) (by kernel_rfl) rfl ?_
  refine AWL.ygT rfl rfl rfl rfl (B rfl) (Yv.move rfl (E rfl rfl)) ?_
  refine AWL.nil ?_
  refine AWP.one (i := 19) (by kernel_rfl) rfl ?_
  refine AWL.ygT rfl rfl rfl rfl (B rfl) (Yv.indexSl (j := 4096) rfl ss_27 (B rfl) (E rfl rfl) (Eg rfl rfl id) (fun hg => ⟨rfl, by simp only [len_u8s]; omega⟩)) ?_
  refine AWL.nil ?_
  refine AWP.one (i := 20) (by kernel_rfl) rfl ?_
  refine AWL.ygT rfl rfl rfl rfl (B rfl) (Yv.loadRp rfl ag_5 (Eg rfl rfl id) (fun hg => u8_get (by omega))) ?_
  refine AWL.nil ?_
  refine AWP.one (i := 21) (by kernel_rfl) rfl ?_
  refine AWL.ygT rfl rfl rfl rfl (B rfl) (Yv.eql rfl (Eg rfl rfl id) (E rfl rfl)) ?_
  refine AWL.nil ?_
  refine AWP.one (i := 22) (by kernel_rfl) rfl ?_
  refine AWL.y rfl rfl (B rfl) (Yv.pickAnd rfl (E rfl rfl) (Eg rfl rfl id)) ?_
  refine AWL.nil ?_
  refine AWP.one (i := 23) (by kernel_rfl) rfl ?_
  refine AWL.y rfl rfl (B rfl) (Yv.move rfl (E rfl rfl)) ?_
  refine AWL.nil ?_
  refine AWP.two (i := 24) (j := 25) (by kernel_rfl) rfl rfl ?_ ?_
  ·
    refine AWL.unguard rfl rfl rfl (by rw [h0, h4, hlen]; rfl) ?_
    refine AWL.y rfl rfl (B rfl) (Yv.loadBoxA rfl ag_25 (i := 0) rfl (E rfl rfl) rfl rfl) ?_
    refine AWL.nil ?_
    refine AWP.one (i := 25) (by kernel_rfl) rfl ?_
    refine AWL.unguard rfl rfl rfl (by rw [h0, h4, hlen]; rfl) ?_
    refine AWL.callT rfl rfl (B rfl) rfl ce_26 (E rfl rfl) evs0 (little26) ?_
    rintro t40 S40 rfl
    refine AWL.nil ?_
    refine AWP.one (i := 26) (by kernel_rfl) rfl ?_
    refine AWL.unguard rfl rfl rfl (by rw [h0, h4, hlen]; rfl) ?_
    refine AWL.callP rfl rfl (B rfl) rfl ce_17 (E rfl rfl) (evsC (E rfl rfl) (evsC (E rfl rfl) evs0)) (same17 lit lit lit_ok lit_ok) (fun t S h => h) ?_
    refine AWL.nil ?_
    refine AWP.one (i := 27) (by kernel_rfl) rfl ?_
    refine AWL.y rfl rfl (B rfl) (Yv.pickAnd rfl (E rfl rfl) (E rfl rfl)) ?_
    refine AWL.nil ?_
    refine AWP.one (i := 28) (by kernel_rfl) rfl ?_
    refine AWL.y rfl rfl (B rfl) (Yv.assign rfl (E rfl rfl)) ?_
    refine AWL.nil ?_
    refine AWP.done (by kernel_rfl) ?_
    refine AW.ret (retI (.tmp rfl .nil) ?_)
    rw [h0, h4, hlen, decide_eq_true (show lit = lit from rfl)]; rfl
  ·
    refine AWL.unguard rfl rfl rfl (by rw [h0, h4, hlen]; rfl) ?_
    refine AWL.callT rfl rfl (B rfl) rfl ce_26 (E rfl rfl) evs0 (little26) ?_
    rintro t40 S40 rfl
    refine AWL.nil ?_
    refine AWP.one (i := 24) (by kernel_rfl) rfl ?_
    refine AWL.unguard rfl rfl rfl (by rw [h0, h4, hlen]; rfl) ?_
    refine AWL.y rfl rfl (B rfl) (Yv.loadBoxA rfl ag_25 (i := 0) rfl (E rfl rfl) rfl rfl) ?_
    refine AWL.nil ?_
    refine AWP.one (i := 26) (by kernel_rfl) rfl ?_
    refine AWL.unguard rfl rfl rfl (by rw [h0, h4, hlen]; rfl) ?_
    refine AWL.callP rfl rfl (B rfl) rfl ce_17 (E rfl rfl) (evsC (E rfl rfl) (evsC (E rfl rfl) evs0)) (same17 lit lit lit_ok lit_ok) (fun t S h => h) ?_
    refine AWL.nil ?_
    refine AWP.one (i := 27) (by kernel_rfl) rfl ?_
    refine AWL.y rfl rfl (B rfl) (Yv.pickAnd rfl (E rfl rfl) (E rfl rfl)) ?_
    refine AWL.nil ?_
    refine AWP.one (i := 28) (by kernel_rfl) rfl ?_
    refine AWL.y rfl rfl (B rfl) (Yv.assign rfl (E rfl rfl)) ?_
    refine AWL.nil ?_
    refine AWP.done (by kernel_rfl) ?_
    refine AW.ret (retI (.tmp rfl .nil) ?_)
    rw [h0, h4, hlen, decide_eq_true (show lit = lit from rfl)]; rfl

end Go.Proofs.Ytckkcncgglfbbaa
