/-
  CONTRACTS of the heap package: graphs read; walked by program.
-/
import Derived.Test.YtbndnmmceccbkaaWk8
import Derived.Test.YtbndnmmceccbkaaReadC
namespace Go.Proofs.Ytbndnmmceccbkaa
open Go Go.RowKit
set_option linter.unusedVariables false

set_option maxHeartbeats 1000000 in
theorem Read27 (b : List UInt8) (a : Int) (ws : List Int) (hb : b.length ≤ 1099511627) (hws : ws.length ≤ 1099511627) (ha0 : 0 ≤ a) (ha1 : a ≤ 18446744073709551615) (hpl : PlOk ws) :
    ACalls Try.prog 27 [u8s b, .v (.int .u64 a), .sl 1 (ws.map zu)] [] (fun t_ S => t_ = .tup [graphT (readR b a ws).1, .v (.int .i64 (readR b a ws).2)]) := by
  refine ACalls.intro Try.func27 rfl Try.ntmps27 (Nat.le_of_ble_eq_true rfl) rfl fun X w0 => ?_
  refine AW.rseq ?_
  refine AWL.allocOp rfl rfl (B rfl) rfl zc_27 (fun b6 => ?_)
  refine AWL.y rfl rfl (B rfl) (Yv.assign rfl (E rfl rfl)) ?_
  refine AWL.nil ?_
  refine AW.seq ?_
  refine AW.rseq ?_
  refine AWL.y rfl rfl (B rfl) (Yv.move rfl (E rfl rfl)) ?_
  refine AWL.y rfl rfl (B rfl) (Yv.remN rfl (E rfl rfl) (E rfl rfl) (fun hg => by omega)) ?_
  refine AWL.y rfl rfl (B rfl) (Yv.neq rfl (E rfl rfl) (E rfl rfl)) ?_
  refine AWL.y rfl rfl (B rfl) (Yv.move rfl (E rfl rfl)) ?_
  refine AWL.ygF rfl rfl rfl rfl (B rfl) (Yv.move rfl (E rfl rfl)) ?_
  refine AWL.ygF rfl rfl rfl rfl (B rfl) (Yv.gtr rfl (Eg rfl rfl id) (E rfl rfl)) ?_
  refine AWL.y rfl rfl (B rfl) (Yv.pickOr (t := .const (.bool true)) rfl (E rfl rfl) (Eg rfl rfl id)) ?_
  refine AWL.y rfl rfl (B rfl) (Yv.move rfl (E rfl rfl)) ?_
  refine AWL.ygF rfl rfl rfl rfl (B rfl) (Yv.move rfl (E rfl rfl)) ?_
  refine AWL.ygF rfl rfl rfl rfl (B rfl) (Yv.lenSl rfl so_40 (B rfl) (Eg rfl rfl id) len_u8s) ?_
  refine AWL.ygF rfl rfl rfl rfl (B rfl) (Yv.convN_u64 rfl Try.underlying3 kd_29 (Eg rfl rfl id) (fun hg => by first | omega | (simp only [Bool.and_eq_true, Bool.or_eq_false_iff, Bool.not_eq_true', Bool.not_eq_false', decide_eq_true_eq, decide_eq_false_iff_not] at hg; omega))) ?_
  refine AWL.ygF rfl rfl rfl rfl (B rfl) (Yv.move rfl (E rfl rfl)) ?_
  refine AWL.ygF rfl rfl rfl rfl (B rfl) (Yv.subN_u64 rfl (E rfl rfl) (Eg rfl rfl id) (fun hg => by first | omega | (simp only [Bool.and_eq_true, Bool.or_eq_false_iff, Bool.not_eq_true', Bool.not_eq_false', decide_eq_true_eq, decide_eq_false_iff_not] at hg; omega))) ?_
  refine AWL.ygF rfl rfl rfl rfl (B rfl) (Yv.gtr rfl (Eg rfl rfl id) (Eg rfl rfl id)) ?_
  refine AWL.y rfl rfl (B rfl) (Yv.pickOr (t := .const (.bool true)) rfl (E rfl rfl) (Eg rfl rfl id)) ?_
  refine AWL.nil ?_
  refine AW.cond rfl (fun h0t => ?_) (fun h0f => ?_)
  ·
    try replace h0t := of_decide_eq_true h0t
    refine AW.rseq ?_
    refine AWL.y rfl rfl (B rfl) (Yv.buildS rfl sh_27 evp0 (fun _ => rfl)) ?_
    refine AWL.storeBox (i := 0) rfl rfl rfl ag_27 rfl (E rfl rfl) (E rfl rfl) rfl rfl (Nat.le_of_ble_eq_true rfl) ?_
    refine AWL.y rfl rfl (B rfl) (Yv.assign rfl (E rfl rfl)) ?_
    refine AWL.nil ?_
    refine AW.rowNil 24 4 ?_
    refine AW.freezeCell 1 0 0 rfl (by decide) rfl rfl ?_
    refine AW.rowNil 54 2 ?_
    refine AW.freezeCell 1 0 1 rfl (by decide) rfl rfl ?_
    refine AW.ret (retI (.cellA (i := 0) rfl ag_27 rfl rfl rfl (.tmp rfl .nil)) ?_)
    show T.tup [graphT ⟨[], []⟩, _] = _
    rw [readR_bad h0t]
    rfl
  ·
    try replace h0f := of_decide_eq_false h0f
    have hbr : badR b a = false := h0f
    simp only [Bool.or_eq_true, Bool.and_eq_true, Bool.or_eq_false_iff, Bool.and_eq_false_iff, Bool.not_eq_true', Bool.not_eq_false', decide_eq_true_eq, decide_eq_false_iff_not, Decidable.not_not] at h0f
    have ha8 : a % 8 = 0 := by omega
    have hab : a + b.length ≤ 9223372036854775808 := by omega
    refine AW.skip ?_
    refine AW.rseq ?_
    refine AWL.y rfl rfl (B rfl) (Yv.move rfl (E rfl rfl)) ?_
    refine AWL.y rfl rfl (B rfl) (Yv.move rfl (E rfl rfl)) ?_
    refine AWL.makeMapOp rfl rfl (B rfl) rfl (fun b33 => ?_)
    refine AWL.y rfl rfl (B rfl) (Yv.buildS rfl sh_84 (evpC (E rfl rfl) (evpC (E rfl rfl) (evpC (E rfl rfl) evp0))) (fun _ => rfl)) ?_
    refine AWL.boxOp rfl rfl (B rfl) rfl (E rfl rfl) rfl (fun b35 => ?_)
    refine AWL.y rfl rfl (B rfl) (Yv.assign rfl (E rfl rfl)) ?_
    refine AWL.nil ?_
    refine AW.rowNil 29 1 ?_
    refine AW.perm (List.perm_append_comm (l₁ := RS b33 b35 b a none 0 []) (l₂ := [.box b6 27 [.v (.slice none 0 0), .v (.slice none 0 0)]])) ?_
    refine AW.rseq ?_
    refine AWL.allocOp rfl rfl (B rfl) rfl zc_27 (fun b9 => ?_)
    refine AWL.nil ?_
    refine AW.rowNil 54 2 ?_
    refine AW.seq ?_
    refine AW.rseq ?_
    refine AWL.y rfl rfl (B rfl) (Yv.move rfl (E rfl rfl)) ?_
    refine AWL.y rfl rfl (B rfl) (Yv.lenSl rfl so_41 (B rfl) (E rfl rfl) len_zu) ?_
    refine AWL.y rfl rfl (B rfl) (Yv.move rfl (E rfl rfl)) ?_
    refine AWL.nil ?_
    refine AW.block ?_
    refine AW.loop5 (fun (j : Nat) (A1 : Option Addr) (c1 : Nat) (Ao : Option Addr) (co : Nat) => [(6, true, .v (vp b6)), (8, true, .v (vp b35)), (9, true, .v (vp b9)), (36, true, .sl 1 (ws.map zu)), (37, true, .v (.int .i64 (ws.length : Int))), (38, true, .v (.int .i64 (j : Int)))]) (fun (j : Nat) (A1 : Option Addr) (c1 : Nat) (Ao : Option Addr) (co : Nat) => ((RS b33 b35 b a A1 c1 (valsF [] (ws.take j)).1) ++ [.box b6 27 [.v (.slice none 0 0), .v (.slice none 0 0)], .box b9 27 [.v (.slice none 0 0), .v (.slice Ao j co)], .row Ao j co 54 2 ((valsF [] (ws.take j)).2.flatMap refCells)])) (fun (j : Nat) (A1 : Option Addr) (c1 : Nat) (Ao : Option Addr) (co : Nat) => j ≤ ws.length) (fun (j : Nat) (A1 : Option Addr) (c1 : Nat) (Ao : Option Addr) (co : Nat) => ws.length - j) 0 none 0 none 0 ?_ ?_ ?_ ?_
    · exact Nat.zero_le _
    · exact (Sub.cons rfl rfl (Sub.cons rfl rfl (Sub.cons rfl rfl (Sub.cons rfl rfl (Sub.cons rfl rfl (Sub.cons rfl rfl Sub.nil))))))
    · rfl
    ·
      intro j A1 c1 Ao co hinv
      have hok := valsF_ok (RowR.nil b ws) (l := ws.take j) (fun x hx => List.mem_append.2 (.inl (List.mem_of_mem_take hx)))
      have hlen := hok.len
      refine AW.rseq ?_
      refine AWL.y rfl rfl (B rfl) (Yv.lss rfl (E rfl rfl) (E rfl rfl)) ?_
      refine AWL.nil ?_
      refine AW.seq ?_
      refine AW.cond rfl (fun h1t => ?_) (fun h1f => ?_)
      ·
        try replace h1t := of_decide_eq_true h1t
        have hxr := hpl (ws.getD j 0) (getD_mem0 (by omega))
        refine AW.skip ?_
        refine AW.seq ?_
        refine AW.block ?_
        refine AW.rseq ?_
        refine AWL.y rfl rfl (B rfl) (Yv.indexSl rfl ss_41 (B rfl) (E rfl rfl) (E rfl rfl) (fun hg => ⟨rfl, (by first | omega | (simp only [len_zu, len_refs, len_things, len_u8s]; omega))⟩)) ?_
        refine AWL.y rfl rfl (B rfl) (Yv.loadRp rfl ag_29 (E rfl rfl) (fun hg => zu_get (by omega))) ?_
        refine AWL.y rfl rfl (B rfl) (Yv.assign rfl (E rfl rfl)) ?_
        refine AWL.nil ?_
        refine AW.mid1 (α := (Option Addr × Nat) × (Option Addr × Nat)) (fun q => [(6, true, .v (vp b6)), (8, true, .v (vp b35)), (9, true, .v (vp b9)), (36, true, .sl 1 (ws.map zu)), (37, true, .v (.int .i64 (ws.length : Int))), (38, true, .v (.int .i64 (j : Int)))]) (fun q => ((RS b33 b35 b a q.1.1 q.1.2 (valsF [] (ws.take (j + 1))).1) ++ [.box b6 27 [.v (.slice none 0 0), .v (.slice none 0 0)], .box b9 27 [.v (.slice none 0 0), .v (.slice q.2.1 (j + 1) q.2.2)], .row q.2.1 (j + 1) q.2.2 54 2 ((valsF [] (ws.take (j + 1))).2.flatMap refCells)])) (fun _ => True) ?_ ?_
        ·
          refine AW.regionP rfl ?_
          refine AWP.take (i := 0) rfl (by kernel_rfl) (by kernel_rfl) (by kernel_rfl) rfl rfl (B rfl) (freeField rfl fo_27_1 (E rfl rfl)) ?_
          refine AWP.take (i := 2) rfl (by kernel_rfl) (by kernel_rfl) (by kernel_rfl) rfl rfl (B rfl) (freeMove rfl (E rfl rfl)) ?_
          refine AWP.take (i := 3) rfl (by kernel_rfl) (by kernel_rfl) (by kernel_rfl) rfl rfl (B rfl) (freeMove rfl (E rfl rfl)) ?_
          refine AWP.two (i := 1) (j := 4) (by kernel_rfl) rfl rfl ?_ ?_
          ·
            refine AWL.y rfl rfl (B rfl) (Yv.loadBox rfl ag_22 (i := 4) rfl (E rfl rfl) rfl) ?_
            refine AWL.nil ?_
            refine AWP.one (i := 4) (by kernel_rfl) rfl ?_
            refine AWL.call rfl rfl (B rfl) rfl ce_53 (E rfl rfl) (evsC (E rfl rfl) (evsC (E rfl rfl) evs0)) (S1 := (RS b33 b35 b a A1 c1 (valsF [] (ws.take j)).1)) (S2 := _) rfl (value53 b a (valsF [] (ws.take j)).1 b33 b35 A1 c1 (ws.getD j 0) hxr.1 hxr.2 (by omega)) ?_
            rintro t46 S46 ⟨rfl, A46, c46, E46, rfl⟩
            refine AWL.dropAt 3 ?_
            refine AWL.nil ?_
            refine AWP.one (i := 5) (by kernel_rfl) rfl ?_
            refine AWL.buildSliceE rfl rfl (B rfl) rfl el_22 (B rfl) rfl (evsC (E rfl rfl) evs0) (Nat.le_of_ble_eq_true rfl) rfl rfl ?_
            refine AWL.nil ?_
            refine AWP.one (i := 6) (by kernel_rfl) rfl ?_
            refine AWL.appendRow (i := 5) rfl rfl (B rfl) rfl el_22 (B rfl) rfl (E rfl rfl) (SrcT.sl so_22 (B rfl) (E rfl rfl) rfl) (by unfold maxLen; omega) (by omega) (fun A48 c48 => ?_)
            refine AWL.nil ?_
            refine AWP.one (i := 7) (by kernel_rfl) rfl ?_
            refine AWL.y rfl rfl (B rfl) (Yv.fieldBox rfl fo_27_1 (E rfl rfl)) ?_
            refine AWL.nil ?_
            refine AWP.one (i := 8) (by kernel_rfl) rfl ?_
            refine AWL.storeBox (i := 4) rfl rfl rfl ag_22 rfl (E rfl rfl) (E rfl rfl) rfl rfl (Nat.le_of_ble_eq_true rfl) ?_
            refine AWL.nil ?_
            refine AWP.done (by kernel_rfl) ?_
            rw [vals_take (by omega), out_flat]
            exact ⟨((A46, c46), (A48, c48)), trivial, Sub.cons rfl rfl (Sub.cons rfl rfl (Sub.cons rfl rfl (Sub.cons rfl rfl (Sub.cons rfl rfl (Sub.cons rfl rfl Sub.nil))))), rfl⟩
          ·
            refine AWL.call rfl rfl (B rfl) rfl ce_53 (E rfl rfl) (evsC (E rfl rfl) (evsC (E rfl rfl) evs0)) (S1 := (RS b33 b35 b a A1 c1 (valsF [] (ws.take j)).1)) (S2 := _) rfl (value53 b a (valsF [] (ws.take j)).1 b33 b35 A1 c1 (ws.getD j 0) hxr.1 hxr.2 (by omega)) ?_
            rintro t46 S46 ⟨rfl, A46, c46, E46, rfl⟩
            refine AWL.dropAt 3 ?_
            refine AWL.nil ?_
            refine AWP.two (i := 1) (j := 5) (by kernel_rfl) rfl rfl ?_ ?_
            ·
              refine AWL.y rfl rfl (B rfl) (Yv.loadBox rfl ag_22 (i := 4) rfl (E rfl rfl) rfl) ?_
              refine AWL.nil ?_
              refine AWP.one (i := 5) (by kernel_rfl) rfl ?_
              refine AWL.buildSliceE rfl rfl (B rfl) rfl el_22 (B rfl) rfl (evsC (E rfl rfl) evs0) (Nat.le_of_ble_eq_true rfl) rfl rfl ?_
              refine AWL.nil ?_
              refine AWP.one (i := 6) (by kernel_rfl) rfl ?_
              refine AWL.appendRow (i := 5) rfl rfl (B rfl) rfl el_22 (B rfl) rfl (E rfl rfl) (SrcT.sl so_22 (B rfl) (E rfl rfl) rfl) (by unfold maxLen; omega) (by omega) (fun A48 c48 => ?_)
              refine AWL.nil ?_
              refine AWP.one (i := 7) (by kernel_rfl) rfl ?_
              refine AWL.y rfl rfl (B rfl) (Yv.fieldBox rfl fo_27_1 (E rfl rfl)) ?_
              refine AWL.nil ?_
              refine AWP.one (i := 8) (by kernel_rfl) rfl ?_
              refine AWL.storeBox (i := 4) rfl rfl rfl ag_22 rfl (E rfl rfl) (E rfl rfl) rfl rfl (Nat.le_of_ble_eq_true rfl) ?_
              refine AWL.nil ?_
              refine AWP.done (by kernel_rfl) ?_
              rw [vals_take (by omega), out_flat]
              exact ⟨((A46, c46), (A48, c48)), trivial, Sub.cons rfl rfl (Sub.cons rfl rfl (Sub.cons rfl rfl (Sub.cons rfl rfl (Sub.cons rfl rfl (Sub.cons rfl rfl Sub.nil))))), rfl⟩
            ·
              refine AWL.buildSliceE rfl rfl (B rfl) rfl el_22 (B rfl) rfl (evsC (E rfl rfl) evs0) (Nat.le_of_ble_eq_true rfl) rfl rfl ?_
              refine AWL.nil ?_
              refine AWP.one (i := 1) (by kernel_rfl) rfl ?_
              refine AWL.y rfl rfl (B rfl) (Yv.loadBox rfl ag_22 (i := 4) rfl (E rfl rfl) rfl) ?_
              refine AWL.nil ?_
              refine AWP.one (i := 6) (by kernel_rfl) rfl ?_
              refine AWL.appendRow (i := 5) rfl rfl (B rfl) rfl el_22 (B rfl) rfl (E rfl rfl) (SrcT.sl so_22 (B rfl) (E rfl rfl) rfl) (by unfold maxLen; omega) (by omega) (fun A48 c48 => ?_)
              refine AWL.nil ?_
              refine AWP.one (i := 7) (by kernel_rfl) rfl ?_
              refine AWL.y rfl rfl (B rfl) (Yv.fieldBox rfl fo_27_1 (E rfl rfl)) ?_
              refine AWL.nil ?_
              refine AWP.one (i := 8) (by kernel_rfl) rfl ?_
              refine AWL.storeBox (i := 4) rfl rfl rfl ag_22 rfl (E rfl rfl) (E rfl rfl) rfl rfl (Nat.le_of_ble_eq_true rfl) ?_
              refine AWL.nil ?_
              refine AWP.done (by kernel_rfl) ?_
              rw [vals_take (by omega), out_flat]
              exact ⟨((A46, c46), (A48, c48)), trivial, Sub.cons rfl rfl (Sub.cons rfl rfl (Sub.cons rfl rfl (Sub.cons rfl rfl (Sub.cons rfl rfl (Sub.cons rfl rfl Sub.nil))))), rfl⟩
        ·
          rintro ⟨qa, qo⟩ env1 hmid hsub1
          refine AW.weaken hsub1 ?_
          refine AW.region ?_
          refine AWL.y rfl rfl (B rfl) (Yv.addN_i64 rfl (E rfl rfl) (E rfl rfl) (fun hg => by omega)) ?_
          refine AWL.y rfl rfl (B rfl) (Yv.move rfl (E rfl rfl)) ?_
          refine AWL.nil ?_
          refine ⟨j + 1, qa.1, qa.2, qo.1, qo.2, by omega, by omega, Sub.cons rfl rfl (Sub.cons rfl rfl (Sub.cons rfl rfl (Sub.cons rfl rfl (Sub.cons rfl rfl (Sub.cons rfl (by simp) Sub.nil))))), rfl⟩
      ·
        try replace h1f := of_decide_eq_false h1f
        obtain rfl : j = ws.length := by omega
        refine AW.exit ?_
        refine AW.seq ?_
        rw [List.take_length]
        refine AW.freezeCell 5 4 1 rfl (by decide) rfl rfl ?_
        refine AW.rseq ?_
        refine AWL.y rfl rfl (B rfl) (Yv.assign rfl (E rfl rfl)) ?_
        refine AWL.nil ?_
        refine AW.rowNil 24 4 ?_
        refine AW.block ?_
        refine AW.loop5 (fun (m : List Int × List Thing) (A1 : Option Addr) (c1 : Nat) (Ao : Option Addr) (co : Nat) => [(6, true, .v (vp b6)), (8, true, .v (vp b35)), (9, true, .v (vp b9)), (12, true, .v (.int .i64 (m.2.length : Int)))]) (fun (m : List Int × List Thing) (A1 : Option Addr) (c1 : Nat) (Ao : Option Addr) (co : Nat) => ((RS b33 b35 b a A1 c1 m.1) ++ [.box b6 27 [.v (.slice none 0 0), .v (.slice none 0 0)], .box b9 27 [.v (.slice Ao m.2.length co), .sl 2 ((valsF [] ws).2.flatMap refCells)], .row Ao m.2.length co 24 4 (m.2.flatMap thingCells)])) (fun (m : List Int × List Thing) (A1 : Option Addr) (c1 : Nat) (Ao : Option Addr) (co : Nat) => RI b a ws m) (fun (m : List Int × List Thing) (A1 : Option Addr) (c1 : Nat) (Ao : Option Addr) (co : Nat) => fuelR b - m.2.length) (((valsF [] ws).1, [])) A1 c1 none 0 ?_ ?_ ?_ ?_
        · exact RI.init
        · exact (Sub.cons rfl rfl (Sub.cons rfl rfl (Sub.cons rfl rfl (Sub.cons rfl rfl Sub.nil))))
        · rfl
        ·
          intro m A1 c1 Ao co hinv
          have hml := hinv.len ha8
          have hrl := hinv.row.len
          have hprow := hinv.row.range hpl
          have hfu : fuelR b = b.length / 8 + 1 := rfl
          refine AW.seq ?_
          refine AW.rseq ?_
          refine AWL.y rfl rfl (B rfl) (Yv.move rfl (E rfl rfl)) ?_
          refine AWL.y rfl rfl (B rfl) (Yv.move rfl (E rfl rfl)) ?_
          refine AWL.y rfl rfl (B rfl) (Yv.nilChk rfl (E rfl rfl)) ?_
          refine AWL.y rfl rfl (B rfl) (Yv.fieldBox rfl fo_84_3 (E rfl rfl)) ?_
          refine AWL.y rfl rfl (B rfl) (Yv.loadBox rfl ag_41 (i := 1) rfl (E rfl rfl) rfl) ?_
          refine AWL.y rfl rfl (B rfl) (Yv.lenV rfl so_41 (E rfl rfl)) ?_
          refine AWL.y rfl rfl (B rfl) (Yv.lss rfl (E rfl rfl) (E rfl rfl)) ?_
          refine AWL.nil ?_
          refine AW.cond rfl (fun h2t => ?_) (fun h2f => ?_)
          ·
            try replace h2t := of_decide_eq_true h2t
            have hzr := hprow (m.1.getD m.2.length 0) (getD_mem0 (by omega))
            refine AW.skip ?_
            refine AW.seq ?_
            refine AW.block ?_
            refine AW.rseq ?_
            refine AWL.y rfl rfl (B rfl) (Yv.move rfl (E rfl rfl)) ?_
            refine AWL.y rfl rfl (B rfl) (Yv.move rfl (E rfl rfl)) ?_
            refine AWL.y rfl rfl (B rfl) (Yv.nilChk rfl (E rfl rfl)) ?_
            refine AWL.y rfl rfl (B rfl) (Yv.fieldBox rfl fo_84_3 (E rfl rfl)) ?_
            refine AWL.y rfl rfl (B rfl) (Yv.loadBox rfl ag_41 (i := 1) rfl (E rfl rfl) rfl) ?_
            refine AWL.y rfl rfl (B rfl) (Yv.move rfl (E rfl rfl)) ?_
            refine AWL.y rfl rfl (B rfl) (Yv.indexRow (j := m.2.length) rfl ss_41 (i := 2) rfl (E rfl rfl) (E rfl rfl) (fun hg => ⟨rfl, by omega⟩)) ?_
            refine AWL.y rfl rfl (B rfl) (Yv.loadEp rfl ag_29 (i := 2) rfl (E rfl rfl) (fun hg => zu_get (by omega))) ?_
            refine AWL.call rfl rfl (B rfl) rfl ce_54 (E rfl rfl) (evsC (E rfl rfl) (evsC (E rfl rfl) evs0)) (S1 := (RS b33 b35 b a A1 c1 m.1)) (S2 := _) rfl (thing54 b a m.1 b33 b35 A1 c1 ws (m.1.getD m.2.length 0) hzr.1 hzr.2 hb hws ha0 hab ha8 hinv.row) ?_
            rintro t69 S69 ⟨t', ok, row', A69, c69, E69, rfl, rfl, hth⟩
            refine AWL.dropAt 3 ?_
            refine AWL.y rfl rfl (B rfl) (Yv.move rfl (E rfl rfl)) ?_
            refine AWL.y rfl rfl (B rfl) (Yv.extract rfl (E rfl rfl) rfl) ?_
            refine AWL.y rfl rfl (B rfl) (Yv.extract rfl (E rfl rfl) rfl) ?_
            refine AWL.allocOp rfl rfl (B rfl) rfl zc_24 (fun b13 => ?_)
            refine AWL.storeBox (i := 6) rfl rfl rfl ag_24 rfl (E rfl rfl) (E rfl rfl) rfl rfl (Nat.le_of_ble_eq_true rfl) ?_
            refine AWL.y rfl rfl (B rfl) (Yv.assign rfl (E rfl rfl)) ?_
            refine AWL.nil ?_
            refine AW.seq ?_
            refine AW.rseq ?_
            refine AWL.y rfl rfl (B rfl) (Yv.move rfl (E rfl rfl)) ?_
            refine AWL.y rfl rfl (B rfl) (Yv.not rfl (E rfl rfl)) ?_
            refine AWL.nil ?_
            refine AW.cond rfl (fun h3t => ?_) (fun h3f => ?_)
            ·
              try replace h3t := of_decide_eq_true h3t
              have hok : ok = false := by simpa using h3t
              rw [hok, if_neg (by decide)] at hth
              refine AW.rseq ?_
              refine AWL.y rfl rfl (B rfl) (Yv.buildS rfl sh_27 evp0 (fun _ => rfl)) ?_
              refine AWL.storeBox (i := 3) rfl rfl rfl ag_27 rfl (E rfl rfl) (E rfl rfl) rfl rfl (Nat.le_of_ble_eq_true rfl) ?_
              refine AWL.y rfl rfl (B rfl) (Yv.assign rfl (E rfl rfl)) ?_
              refine AWL.nil ?_
              refine AW.rowNil 24 4 ?_
              refine AW.freezeCell 7 3 0 rfl (by decide) rfl rfl ?_
              refine AW.rowNil 54 2 ?_
              refine AW.freezeCell 7 3 1 rfl (by decide) rfl rfl ?_
              refine AW.ret (retI (.cellA (i := 3) rfl ag_27 rfl rfl rfl (.tmp rfl .nil)) ?_)
              show T.tup [graphT ⟨[], []⟩, _] = _
              rw [readR_fail hbr hinv (by omega) hth]
              rfl
            ·
              try replace h3f := of_decide_eq_false h3f
              have hok : ok = true := by simpa using h3f
              have hth' : thingR b a m.1 (m.1.getD m.2.length 0) = some (row', t') := by rw [hth, if_pos hok]
              refine AW.skip ?_
              refine AW.region ?_
              refine AWL.y rfl rfl (B rfl) (Yv.fieldBox rfl fo_27_0 (E rfl rfl)) ?_
              refine AWL.y rfl rfl (B rfl) (Yv.loadBox rfl ag_25 (i := 4) rfl (E rfl rfl) rfl) ?_
              refine AWL.y rfl rfl (B rfl) (Yv.loadBoxA rfl ag_24 (i := 6) rfl (E rfl rfl) rfl rfl) ?_
              refine AWL.buildSliceE rfl rfl (B rfl) rfl el_25 (B rfl) rfl (evsC (E rfl rfl) evs0) (Nat.le_of_ble_eq_true rfl) rfl rfl ?_
              refine AWL.appendRow (i := 5) rfl rfl (B rfl) rfl el_25 (B rfl) rfl (E rfl rfl) (SrcT.sl so_25 (B rfl) (E rfl rfl) rfl) (by unfold maxLen; omega) (by omega) (fun A79 c79 => ?_)
              refine AWL.y rfl rfl (B rfl) (Yv.fieldBox rfl fo_27_0 (E rfl rfl)) ?_
              refine AWL.storeBox (i := 4) rfl rfl rfl ag_25 rfl (E rfl rfl) (E rfl rfl) rfl rfl (Nat.le_of_ble_eq_true rfl) ?_
              refine AWL.nil ?_
              refine AW.dropAt 6 ?_
              refine AW.region ?_
              refine AWL.y rfl rfl (B rfl) (Yv.move rfl (E rfl rfl)) ?_
              refine AWL.y rfl rfl (B rfl) (Yv.addN_i64 rfl (E rfl rfl) (E rfl rfl) (fun hg => by omega)) ?_
              refine AWL.y rfl rfl (B rfl) (Yv.assign rfl (E rfl rfl)) ?_
              refine AWL.nil ?_
              have hst := RI.step hb hws ha8 hinv (by omega) hth'
              refine ⟨(row', m.2 ++ [t']), A69, c69, A79, c79, hst, ?_, ?_, ?_⟩
              · rw [List.length_append, List.length_singleton]; omega
              · exact (Sub.cons rfl rfl (Sub.cons rfl rfl (Sub.cons rfl rfl (Sub.cons rfl (by simp) Sub.nil))))
              · simp only [thing_flat, List.length_append, List.length_singleton]
                rfl
          ·
            try replace h2f := of_decide_eq_false h2f
            refine AW.exit ?_
            refine AW.freezeCell 5 4 0 rfl (by decide) rfl rfl ?_
            refine AW.rseq ?_
            refine AWL.y rfl rfl (B rfl) (Yv.loadBoxA rfl ag_27 (i := 4) rfl (E rfl rfl) rfl rfl) ?_
            refine AWL.storeBox (i := 3) rfl rfl rfl ag_27 rfl (E rfl rfl) (E rfl rfl) rfl rfl (Nat.le_of_ble_eq_true rfl) ?_
            refine AWL.y rfl rfl (B rfl) (Yv.assign rfl (E rfl rfl)) ?_
            refine AWL.nil ?_
            refine AW.ret (retI (.cellA (i := 3) rfl ag_27 rfl rfl rfl (.tmp rfl .nil)) ?_)
            rw [readR_ok hbr hinv (by omega)]
            rfl

end Go.Proofs.Ytbndnmmceccbkaa
