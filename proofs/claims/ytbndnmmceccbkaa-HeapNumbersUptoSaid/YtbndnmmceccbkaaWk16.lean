/-
  CONTRACTS of the heap package: the document's numbering; the law on numbers; walked by program.
-/
import Derived.Test.YtbndnmmceccbkaaWk15
import Derived.Test.YtbndnmmceccbkaaMeet
import Derived.Test.YtbndnmmceccbkaaWk14
namespace Go.Proofs.Ytbndnmmceccbkaa
open Go Go.RowKit
set_option linter.unusedVariables false

set_option maxHeartbeats 400000 in
theorem meet41 (l : List RefV) (row : List Int) (An : Option Addr) (n : Nat) (A : Option Addr) (c : Nat) (hl : l.length ≤ 1099511627) (hn : n ≤ 1099511627) (hr : RowOk n row) (hf : ∀ r ∈ l, fitsF r n = true) :
    ACalls Try.prog 41 [refsT l, .v (.slice An n n), .v (.slice A row.length c)] [.row An n n 3 1 ((numL n row).map z64), .row A row.length c 3 1 (row.map z64)] (fun t_ S => ∃ A' c', t_ = .tup [refsT (metF row l).2, .v (.slice A' (metF row l).1.length c')] ∧ S = [.row An n n 3 1 ((numL n (metF row l).1).map z64), .row A' (metF row l).1.length c' 3 1 ((metF row l).1.map z64)]) := by
  refine ACalls.intro Try.func41 rfl Try.ntmps41 (Nat.le_of_ble_eq_true rfl) rfl fun X w0 => ?_
  refine AW.rseq ?_
  refine AWL.y rfl rfl (B rfl) (Yv.assign rfl (E rfl rfl)) ?_
  refine AWL.y rfl rfl (B rfl) (Yv.assign rfl (E rfl rfl)) ?_
  refine AWL.nil ?_
  refine AW.rseq ?_
  refine AWL.y rfl rfl (B rfl) (Yv.assign rfl (E rfl rfl)) ?_
  refine AWL.nil ?_
  refine AW.rowNil 54 2 ?_
  refine AW.seq ?_
  refine AW.rseq ?_
  refine AWL.y rfl rfl (B rfl) (Yv.assign rfl (E rfl rfl)) ?_
  refine AWL.nil ?_
  refine AW.block ?_
  refine AW.loop5 (fun (j : Nat) (A1 : Option Addr) (c1 : Nat) (Ao : Option Addr) (co : Nat) => [(0, true, refsT l), (1, true, .v (.slice An n n)), (2, true, .v (.slice A1 (metF row (l.take j)).1.length c1)), (8, true, .v (.slice Ao j co)), (9, true, .v (.int .i64 (j : Int)))]) (fun (j : Nat) (A1 : Option Addr) (c1 : Nat) (Ao : Option Addr) (co : Nat) => [.row An n n 3 1 ((numL n (metF row (l.take j)).1).map z64), .row A1 (metF row (l.take j)).1.length c1 3 1 ((metF row (l.take j)).1.map z64), .row Ao j co 54 2 ((metF row (l.take j)).2.flatMap refCells)]) (fun (j : Nat) (A1 : Option Addr) (c1 : Nat) (Ao : Option Addr) (co : Nat) => j ≤ l.length) (fun (j : Nat) (A1 : Option Addr) (c1 : Nat) (Ao : Option Addr) (co : Nat) => l.length - j) 0 A c none 0 ?_ ?_ ?_ ?_
  · exact Nat.zero_le _
  · exact (Sub.cons rfl rfl (Sub.cons rfl rfl (Sub.cons rfl rfl (Sub.cons rfl rfl (Sub.cons rfl rfl Sub.nil)))))
  · rfl
  ·
    intro j A1 c1 Ao co hinv
    have hok := metF_ok hr (l := l.take j) (fun r hr => hf r (List.mem_of_mem_take hr))
    have hlen := hok.len
    have hnl := numL_len n (metF row (l.take j)).1
    refine AW.seq ?_
    refine AW.rseq ?_
    refine AWL.y rfl rfl (B rfl) (Yv.move rfl (E rfl rfl)) ?_
    refine AWL.y rfl rfl (B rfl) (Yv.move rfl (E rfl rfl)) ?_
    refine AWL.y rfl rfl (B rfl) (Yv.lenSl rfl so_22 (B rfl) (E rfl rfl) len_refs) ?_
    refine AWL.y rfl rfl (B rfl) (Yv.lss rfl (E rfl rfl) (E rfl rfl)) ?_
    refine AWL.nil ?_
    refine AW.cond rfl (fun h0t => ?_) (fun h0f => ?_)
    ·
      try replace h0t := of_decide_eq_true h0t
      refine AW.skip ?_
      refine AW.seq ?_
      refine AW.block ?_
      refine AW.rseq ?_
      refine AWL.y rfl rfl (B rfl) (Yv.move rfl (E rfl rfl)) ?_
      refine AWL.y rfl rfl (B rfl) (Yv.move rfl (E rfl rfl)) ?_
      refine AWL.y rfl rfl (B rfl) (Yv.indexSl rfl ss_22 (B rfl) (E rfl rfl) (E rfl rfl) (fun hg => ⟨rfl, (by first | omega | (simp only [len_refs, len_things, len_u8s]; omega))⟩)) ?_
      refine AWL.y rfl rfl (B rfl) (Yv.loadRpA rfl ag_54 (E rfl rfl) (fun hg => ref_get (by omega))) ?_
      refine AWL.allocOp rfl rfl (B rfl) rfl zc_54 (fun b10 => ?_)
      refine AWL.storeBox (i := 3) rfl rfl rfl ag_54 rfl (E rfl rfl) (E rfl rfl) rfl rfl (Nat.le_of_ble_eq_true rfl) ?_
      refine AWL.nil ?_
      refine AW.seq ?_
      refine AW.rseq ?_
      refine AWL.y rfl rfl (B rfl) (Yv.fieldBox rfl fo_54_0 (E rfl rfl)) ?_
      refine AWL.y rfl rfl (B rfl) (Yv.loadBox rfl ag_3 (i := 3) rfl (E rfl rfl) rfl) ?_
      refine AWL.y rfl rfl (B rfl) (Yv.eql rfl (E rfl rfl) (E rfl rfl)) ?_
      refine AWL.nil ?_
      refine AW.cond rfl (fun h1t => ?_) (fun h1f => ?_)
      ·
        try replace h1t := of_decide_eq_true h1t
        have hv := fits_two (hf (l.getD j default) (getD_mem' (by omega))) h1t
        have hgn := numL_get (metF row (l.take j)).1 (show (l.getD j default).n.toNat < n by omega)
        refine AW.seq ?_
        refine AW.rseq ?_
        refine AWL.y rfl rfl (B rfl) (Yv.move rfl (E rfl rfl)) ?_
        refine AWL.y rfl rfl (B rfl) (Yv.fieldBox rfl fo_54_1 (E rfl rfl)) ?_
        refine AWL.y rfl rfl (B rfl) (Yv.loadBox rfl ag_2 (i := 3) rfl (E rfl rfl) rfl) ?_
        refine AWL.y rfl rfl (B rfl) (Yv.indexRow (j := (l.getD j default).n.toNat) rfl ss_61 (i := 0) rfl (E rfl rfl) (E rfl rfl) (fun hg => ⟨(Int.toNat_of_nonneg hv.1).symm, by omega⟩)) ?_
        refine AWL.y rfl rfl (B rfl) (Yv.loadEp rfl ag_3 (i := 0) rfl (E rfl rfl) (fun hg => z64_get (by omega))) ?_
        refine AWL.y rfl rfl (B rfl) (Yv.lss rfl (E rfl rfl) (E rfl rfl)) ?_
        refine AWL.nil ?_
        rcases hix : ixOf (metF row (l.take j)).1 (l.getD j default).n with _ | ix
        ·
          refine AW.cond rfl (fun h2t => ?_) (fun h2f => ?_)
          ·
            refine AW.rseq ?_
            refine AWL.y rfl rfl (B rfl) (Yv.move rfl (E rfl rfl)) ?_
            refine AWL.y rfl rfl (B rfl) (Yv.fieldBox rfl fo_54_1 (E rfl rfl)) ?_
            refine AWL.y rfl rfl (B rfl) (Yv.loadBox rfl ag_2 (i := 3) rfl (E rfl rfl) rfl) ?_
            refine AWL.y rfl rfl (B rfl) (Yv.move rfl (E rfl rfl)) ?_
            refine AWL.y rfl rfl (B rfl) (Yv.lenV rfl so_61 (E rfl rfl)) ?_
            refine AWL.y rfl rfl (B rfl) (Yv.indexRow (j := (l.getD j default).n.toNat) rfl ss_61 (i := 0) rfl (E rfl rfl) (E rfl rfl) (fun hg => ⟨(Int.toNat_of_nonneg hv.1).symm, by omega⟩)) ?_
            refine AWL.storeEp1 (i := 0) rfl rfl rfl ag_3 rfl (E rfl rfl) (E rfl rfl) rfl rfl (by rw [List.length_map, numL_len]; omega) ?_
            refine AWL.nil ?_
            refine AW.region ?_
            refine AWL.y rfl rfl (B rfl) (Yv.move rfl (E rfl rfl)) ?_
            refine AWL.y rfl rfl (B rfl) (Yv.fieldBox rfl fo_54_1 (E rfl rfl)) ?_
            refine AWL.y rfl rfl (B rfl) (Yv.loadBox rfl ag_2 (i := 3) rfl (E rfl rfl) rfl) ?_
            refine AWL.buildSlice1 rfl rfl (B rfl) rfl el_61 rfl (evsC (E rfl rfl) evs0) (Nat.le_of_ble_eq_true rfl) rfl rfl ?_
            refine AWL.appendRow (i := 1) rfl rfl (B rfl) rfl el_61 (B rfl) rfl (E rfl rfl) (SrcT.sl so_61 (B rfl) (E rfl rfl) rfl) (by unfold maxLen; omega) (by omega) (fun A40 c40 => ?_)
            refine AWL.y rfl rfl (B rfl) (Yv.assign rfl (E rfl rfl)) ?_
            refine AWL.nil ?_
            have e3 := num_set hv.1 hv.2 hix
            have hnl2 := numL_len n ((metF row (l.take j)).1 ++ [(l.getD j default).n])
            refine AW.eqS (S' := [.row An n n 3 1 ((numL n ((metF row (l.take j)).1 ++ [(l.getD j default).n])).map z64), .row A40 ((metF row (l.take j)).1.length + 1) c40 3 1 (((metF row (l.take j)).1 ++ [(l.getD j default).n]).map z64), .row Ao j co 54 2 ((metF row (l.take j)).2.flatMap refCells), .box b10 54 (refCells (l.getD j default))]) (by rw [← e3, List.map_append]; rfl) ?_
            refine AW.region ?_
            refine AWL.y rfl rfl (B rfl) (Yv.move rfl (E rfl rfl)) ?_
            refine AWL.y rfl rfl (B rfl) (Yv.fieldBox rfl fo_54_1 (E rfl rfl)) ?_
            refine AWL.y rfl rfl (B rfl) (Yv.loadBox rfl ag_2 (i := 3) rfl (E rfl rfl) rfl) ?_
            refine AWL.y rfl rfl (B rfl) (Yv.indexRow (j := (l.getD j default).n.toNat) rfl ss_61 (i := 0) rfl (E rfl rfl) (E rfl rfl) (fun hg => ⟨(Int.toNat_of_nonneg hv.1).symm, by omega⟩)) ?_
            refine AWL.y rfl rfl (B rfl) (Yv.loadEp rfl ag_3 (i := 0) rfl (E rfl rfl) (fun hg => z64_get (by omega))) ?_
            refine AWL.y rfl rfl (B rfl) (Yv.fieldBox rfl fo_54_1 (E rfl rfl)) ?_
            refine AWL.storeBox (i := 3) rfl rfl rfl ag_2 rfl (E rfl rfl) (E rfl rfl) rfl rfl (Nat.le_of_ble_eq_true rfl) ?_
            refine AWL.nil ?_
            refine AW.region ?_
            refine AWL.y rfl rfl (B rfl) (Yv.move rfl (E rfl rfl)) ?_
            refine AWL.y rfl rfl (B rfl) (Yv.loadBoxA rfl ag_54 (i := 3) rfl (E rfl rfl) rfl rfl) ?_
            refine AWL.buildSliceE rfl rfl (B rfl) rfl el_22 (B rfl) rfl (evsC (E rfl rfl) evs0) (Nat.le_of_ble_eq_true rfl) rfl rfl ?_
            refine AWL.appendRow (i := 2) rfl rfl (B rfl) rfl el_22 (B rfl) rfl (E rfl rfl) (SrcT.sl so_22 (B rfl) (E rfl rfl) rfl) (by unfold maxLen; omega) (by omega) (fun A50 c50 => ?_)
            refine AWL.y rfl rfl (B rfl) (Yv.assign rfl (E rfl rfl)) ?_
            refine AWL.nil ?_
            refine AW.dropAt 3 ?_
            refine AW.region ?_
            refine AWL.y rfl rfl (B rfl) (Yv.move rfl (E rfl rfl)) ?_
            refine AWL.y rfl rfl (B rfl) (Yv.addN_i64 rfl (E rfl rfl) (E rfl rfl) (fun hg => by omega)) ?_
            refine AWL.y rfl rfl (B rfl) (Yv.assign rfl (E rfl rfl)) ?_
            refine AWL.nil ?_
            have e := met_take (l := l) (j := j) (by omega) row
            rw [metR_new h1t hix] at e
            refine ⟨j + 1, A40, c40, A50, c50, by omega, by omega, Sub.cons rfl rfl (Sub.cons rfl rfl (Sub.cons rfl (by rw [e, List.length_append]; rfl) (Sub.cons rfl rfl (Sub.cons rfl (by simp) Sub.nil)))), ?_⟩
            have e2 : refCells ⟨2, ((metF row (l.take j)).1.length : Int)⟩ = [.v (.int .i64 (l.getD j default).kind), .v (.int .i64 ((numL n ((metF row (l.take j)).1 ++ [(l.getD j default).n])).getD (l.getD j default).n.toNat 0))] := by rw [numL_get _ (by omega), numAt_some hv.1 (ixOf_snoc_eq hix), h1t]; rfl
            simp only [e, out_flat, e2, List.length_append, List.length_cons, List.length_nil]
            rfl
          · exfalso; rw [hgn, numAt_none hv.1 hix] at h2f; simp at h2f
        ·
          refine AW.cond rfl (fun h2t => ?_) (fun h2f => ?_)
          · exfalso; rw [hgn, numAt_some hv.1 hix] at h2t; simp at h2t; omega
          ·
            refine AW.skip ?_
            refine AW.region ?_
            refine AWL.y rfl rfl (B rfl) (Yv.move rfl (E rfl rfl)) ?_
            refine AWL.y rfl rfl (B rfl) (Yv.fieldBox rfl fo_54_1 (E rfl rfl)) ?_
            refine AWL.y rfl rfl (B rfl) (Yv.loadBox rfl ag_2 (i := 3) rfl (E rfl rfl) rfl) ?_
            refine AWL.y rfl rfl (B rfl) (Yv.indexRow (j := (l.getD j default).n.toNat) rfl ss_61 (i := 0) rfl (E rfl rfl) (E rfl rfl) (fun hg => ⟨(Int.toNat_of_nonneg hv.1).symm, by omega⟩)) ?_
            refine AWL.y rfl rfl (B rfl) (Yv.loadEp rfl ag_3 (i := 0) rfl (E rfl rfl) (fun hg => z64_get (by omega))) ?_
            refine AWL.y rfl rfl (B rfl) (Yv.fieldBox rfl fo_54_1 (E rfl rfl)) ?_
            refine AWL.storeBox (i := 3) rfl rfl rfl ag_2 rfl (E rfl rfl) (E rfl rfl) rfl rfl (Nat.le_of_ble_eq_true rfl) ?_
            refine AWL.nil ?_
            refine AW.region ?_
            refine AWL.y rfl rfl (B rfl) (Yv.move rfl (E rfl rfl)) ?_
            refine AWL.y rfl rfl (B rfl) (Yv.loadBoxA rfl ag_54 (i := 3) rfl (E rfl rfl) rfl rfl) ?_
            refine AWL.buildSliceE rfl rfl (B rfl) rfl el_22 (B rfl) rfl (evsC (E rfl rfl) evs0) (Nat.le_of_ble_eq_true rfl) rfl rfl ?_
            refine AWL.appendRow (i := 2) rfl rfl (B rfl) rfl el_22 (B rfl) rfl (E rfl rfl) (SrcT.sl so_22 (B rfl) (E rfl rfl) rfl) (by unfold maxLen; omega) (by omega) (fun A50 c50 => ?_)
            refine AWL.y rfl rfl (B rfl) (Yv.assign rfl (E rfl rfl)) ?_
            refine AWL.nil ?_
            refine AW.dropAt 3 ?_
            refine AW.region ?_
            refine AWL.y rfl rfl (B rfl) (Yv.move rfl (E rfl rfl)) ?_
            refine AWL.y rfl rfl (B rfl) (Yv.addN_i64 rfl (E rfl rfl) (E rfl rfl) (fun hg => by omega)) ?_
            refine AWL.y rfl rfl (B rfl) (Yv.assign rfl (E rfl rfl)) ?_
            refine AWL.nil ?_
            have e := met_take (l := l) (j := j) (by omega) row
            rw [metR_in h1t hix] at e
            refine ⟨j + 1, A1, c1, A50, c50, by omega, by omega, Sub.cons rfl rfl (Sub.cons rfl rfl (Sub.cons rfl (by rw [e]) (Sub.cons rfl rfl (Sub.cons rfl (by simp) Sub.nil)))), ?_⟩
            have e2 : refCells ⟨2, (ix : Int)⟩ = [.v (.int .i64 (l.getD j default).kind), .v (.int .i64 ((numL n (metF row (l.take j)).1).getD (l.getD j default).n.toNat 0))] := by rw [numL_get _ (by omega), numAt_some hv.1 hix, h1t]; rfl
            simp only [e, out_flat, e2]
            rfl
      ·
        try replace h1f := of_decide_eq_false h1f
        refine AW.skip ?_
        refine AW.region ?_
        refine AWL.y rfl rfl (B rfl) (Yv.move rfl (E rfl rfl)) ?_
        refine AWL.y rfl rfl (B rfl) (Yv.loadBoxA rfl ag_54 (i := 3) rfl (E rfl rfl) rfl rfl) ?_
        refine AWL.buildSliceE rfl rfl (B rfl) rfl el_22 (B rfl) rfl (evsC (E rfl rfl) evs0) (Nat.le_of_ble_eq_true rfl) rfl rfl ?_
        refine AWL.appendRow (i := 2) rfl rfl (B rfl) rfl el_22 (B rfl) rfl (E rfl rfl) (SrcT.sl so_22 (B rfl) (E rfl rfl) rfl) (by unfold maxLen; omega) (by omega) (fun A50 c50 => ?_)
        refine AWL.y rfl rfl (B rfl) (Yv.assign rfl (E rfl rfl)) ?_
        refine AWL.nil ?_
        refine AW.dropAt 3 ?_
        refine AW.region ?_
        refine AWL.y rfl rfl (B rfl) (Yv.move rfl (E rfl rfl)) ?_
        refine AWL.y rfl rfl (B rfl) (Yv.addN_i64 rfl (E rfl rfl) (E rfl rfl) (fun hg => by omega)) ?_
        refine AWL.y rfl rfl (B rfl) (Yv.assign rfl (E rfl rfl)) ?_
        refine AWL.nil ?_
        have e := met_take (l := l) (j := j) (by omega) row
        rw [metR_small h1f] at e
        refine ⟨j + 1, A1, c1, A50, c50, by omega, by omega, Sub.cons rfl rfl (Sub.cons rfl rfl (Sub.cons rfl (by rw [e]) (Sub.cons rfl rfl (Sub.cons rfl (by simp) Sub.nil)))), ?_⟩
        rw [e, out_flat]
        rfl
    ·
      try replace h0f := of_decide_eq_false h0f
      refine AW.exit ?_
      obtain rfl : j = l.length := by omega
      rw [List.take_length] at *
      refine AW.freeze 2 8 rfl (B rfl) rfl ?_
      refine AW.rseq ?_
      refine AWL.y rfl rfl (B rfl) (Yv.move rfl (E rfl rfl)) ?_
      refine AWL.y rfl rfl (B rfl) (Yv.move rfl (E rfl rfl)) ?_
      refine AWL.y rfl rfl (B rfl) (Yv.assign rfl (E rfl rfl)) ?_
      refine AWL.y rfl rfl (B rfl) (Yv.assign rfl (E rfl rfl)) ?_
      refine AWL.nil ?_
      refine AW.ret (retI (.tmp rfl (.tmp rfl .nil)) ?_)
      exact ⟨A1, c1, rfl, rfl⟩

set_option maxHeartbeats 1000000 in
theorem refCanon17 (g : Graph) (hgr : GraphOk 1099511627 g) :
    ACalls Try.prog 17 [graphT g] [] (fun t_ S => t_ = .tup [graphT (canonG g), .v (.int .i64 (checkF g))]) := by
  have hb1 := hgr.tl
  have hb2 := hgr.rl
  refine ACalls.intro Try.func17 rfl Try.ntmps17 (Nat.le_of_ble_eq_true rfl) rfl fun X w0 => ?_
  refine AW.rseq ?_
  refine AWL.boxOp rfl rfl (B rfl) rfl (E rfl rfl) rfl (fun b1 => ?_)
  refine AWL.allocOp rfl rfl (B rfl) rfl zc_27 (fun b2 => ?_)
  refine AWL.y rfl rfl (B rfl) (Yv.assign rfl (E rfl rfl)) ?_
  refine AWL.nil ?_
  refine AW.rseq ?_
  refine AWL.y rfl rfl (B rfl) (Yv.loadBoxA rfl ag_27 (i := 0) rfl (E rfl rfl) rfl rfl) ?_
  refine AWL.callP rfl rfl (B rfl) rfl ce_14 (E rfl rfl) (evsC (E rfl rfl) evs0) (refCheck14 g hgr) (fun t S h => h) ?_
  refine AWL.y rfl rfl (B rfl) (Yv.assign rfl (E rfl rfl)) ?_
  refine AWL.nil ?_
  refine AW.seq ?_
  refine AW.rseq ?_
  refine AWL.y rfl rfl (B rfl) (Yv.move rfl (E rfl rfl)) ?_
  refine AWL.y rfl rfl (B rfl) (Yv.neq rfl (E rfl rfl) (E rfl rfl)) ?_
  refine AWL.nil ?_
  refine AW.cond rfl (fun h0t => ?_) (fun h0f => ?_)
  ·
    try replace h0t := of_decide_eq_true h0t
    simp only [Bool.or_eq_true, Bool.and_eq_true, Bool.or_eq_false_iff, Bool.and_eq_false_iff, Bool.not_eq_true', Bool.not_eq_false', decide_eq_true_eq, decide_eq_false_iff_not, Decidable.not_not] at h0t
    refine AW.rseq ?_
    refine AWL.y rfl rfl (B rfl) (Yv.buildS rfl sh_27 evp0 (fun _ => rfl)) ?_
    refine AWL.y rfl rfl (B rfl) (Yv.move rfl (E rfl rfl)) ?_
    refine AWL.storeBox (i := 1) rfl rfl rfl ag_27 rfl (E rfl rfl) (E rfl rfl) rfl rfl (Nat.le_of_ble_eq_true rfl) ?_
    refine AWL.y rfl rfl (B rfl) (Yv.assign rfl (E rfl rfl)) ?_
    refine AWL.nil ?_
    refine AW.rowNil 24 4 ?_
    refine AW.freezeCell 2 1 0 rfl (by decide) rfl rfl ?_
    refine AW.rowNil 54 2 ?_
    refine AW.freezeCell 2 1 1 rfl (by decide) rfl rfl ?_
    refine AW.ret (retI (.cellA (i := 1) rfl ag_27 rfl rfl rfl (.tmp rfl .nil)) ?_)
    show T.tup [graphT ⟨[], []⟩, _] = _
    rw [canonG, check_nz h0t]
    rfl
  ·
    try replace h0f := of_decide_eq_false h0f
    simp only [Bool.or_eq_true, Bool.and_eq_true, Bool.or_eq_false_iff, Bool.and_eq_false_iff, Bool.not_eq_true', Bool.not_eq_false', decide_eq_true_eq, decide_eq_false_iff_not, Decidable.not_not] at h0f
    have hck := check_zero.1 h0f
    have hk1 := metF_ok (RowOk.nil g.things.length) (check_roots hck)
    refine AW.skip ?_
    refine AW.rseq ?_
    refine AWL.y rfl rfl (B rfl) (Yv.fieldBox rfl fo_27_0 (E rfl rfl)) ?_
    refine AWL.y rfl rfl (B rfl) (Yv.loadBox rfl ag_25 (i := 0) rfl (E rfl rfl) rfl) ?_
    refine AWL.y rfl rfl (B rfl) (Yv.lenSl rfl so_25 (B rfl) (E rfl rfl) len_things) ?_
    refine AWL.makeRow (n := g.things.length) (c := g.things.length) rfl rfl (B rfl) rfl el_61 (E rfl rfl) (E rfl rfl) (by omega) (by omega) (by unfold maxLen; omega) (fun A20 => ?_)
    refine AWL.y rfl rfl (B rfl) (Yv.assign rfl (E rfl rfl)) ?_
    refine AWL.nil ?_
    refine AW.seq ?_
    refine AW.rseq ?_
    refine AWL.y rfl rfl (B rfl) (Yv.assign rfl (E rfl rfl)) ?_
    refine AWL.nil ?_
    refine AW.block ?_
    refine AW.loop (fun (j : Nat) => [(1, true, .v (vp b1)), (2, true, .v (vp b2)), (5, true, .v (.slice A20 g.things.length g.things.length)), (6, true, .v (.int .i64 (j : Int)))]) (fun (j : Nat) => [.box b1 27 (gCells g), .box b2 27 [.v (.slice none 0 0), .v (.slice none 0 0)], .row A20 g.things.length g.things.length 3 1 ((List.replicate j (-1 : Int)).map z64 ++ List.replicate (g.things.length - j) (z64 0))]) (fun (j : Nat) => j ≤ g.things.length) (fun (j : Nat) => g.things.length - j) 0 ?_ ?_ ?_ ?_
    · exact Nat.zero_le _
    · exact (Sub.cons rfl rfl (Sub.cons rfl rfl (Sub.cons rfl rfl (Sub.cons rfl rfl Sub.nil))))
    · exact congrArg (fun q => [.box b1 27 (gCells g), .box b2 27 [.v (.slice none 0 0), .v (.slice none 0 0)], q]) (rowEq rfl (fillm0 _))
    ·
      intro j hinv
      refine AW.seq ?_
      refine AW.rseq ?_
      refine AWL.y rfl rfl (B rfl) (Yv.move rfl (E rfl rfl)) ?_
      refine AWL.y rfl rfl (B rfl) (Yv.move rfl (E rfl rfl)) ?_
      refine AWL.y rfl rfl (B rfl) (Yv.lenV rfl so_61 (E rfl rfl)) ?_
      refine AWL.y rfl rfl (B rfl) (Yv.lss rfl (E rfl rfl) (E rfl rfl)) ?_
      refine AWL.nil ?_
      refine AW.cond rfl (fun h1t => ?_) (fun h1f => ?_)
      ·
        try replace h1t := of_decide_eq_true h1t
        refine AW.skip ?_
        refine AW.seq ?_
        refine AW.block ?_
        refine AW.region ?_
        refine AWL.y rfl rfl (B rfl) (Yv.move rfl (E rfl rfl)) ?_
        refine AWL.y rfl rfl (B rfl) (Yv.move rfl (E rfl rfl)) ?_
        refine AWL.y rfl rfl (B rfl) (Yv.indexRow (j := j) rfl ss_61 (i := 2) rfl (E rfl rfl) (E rfl rfl) (fun hg => ⟨rfl, by omega⟩)) ?_
        refine AWL.storeEp1 (i := 2) rfl rfl rfl ag_3 rfl (E rfl rfl) (E rfl rfl) rfl rfl (by rw [List.length_append, List.length_map, List.length_replicate, List.length_replicate]; omega) ?_
        refine AWL.nil ?_
        refine AW.region ?_
        refine AWL.y rfl rfl (B rfl) (Yv.move rfl (E rfl rfl)) ?_
        refine AWL.y rfl rfl (B rfl) (Yv.addN_i64 rfl (E rfl rfl) (E rfl rfl) (fun hg => by omega)) ?_
        refine AWL.y rfl rfl (B rfl) (Yv.assign rfl (E rfl rfl)) ?_
        refine AWL.nil ?_
        refine ⟨j + 1, by omega, by omega, Sub.cons rfl rfl (Sub.cons rfl rfl (Sub.cons rfl rfl (Sub.cons rfl (by simp) Sub.nil))), ?_⟩
        rw [← fillm _ _ (by omega)]
        rfl
      ·
        try replace h1f := of_decide_eq_false h1f
        obtain rfl : j = g.things.length := by omega
        refine AW.exit ?_
        refine AW.eqS (S' := [.box b1 27 (gCells g), .box b2 27 [.v (.slice none 0 0), .v (.slice none 0 0)], .row A20 g.things.length g.things.length 3 1 ((numL g.things.length []).map z64)]) (by rw [numL_nil, Nat.sub_self, List.replicate_zero, List.append_nil]) ?_
        refine AW.rseq ?_
        refine AWL.y rfl rfl (B rfl) (Yv.assign rfl (E rfl rfl)) ?_
        refine AWL.nil ?_
        refine AW.rowNil 3 1 ?_
        refine AW.rseq ?_
        refine AWL.y rfl rfl (B rfl) (Yv.buildS rfl sh_27 evp0 (fun _ => rfl)) ?_
        refine AWL.allocOp rfl rfl (B rfl) rfl zc_27 (fun b8 => ?_)
        refine AWL.storeBox (i := 4) rfl rfl rfl ag_27 rfl (E rfl rfl) (E rfl rfl) rfl rfl (Nat.le_of_ble_eq_true rfl) ?_
        refine AWL.nil ?_
        refine AW.rowNil 24 4 ?_
        refine AW.perm (List.Perm.append_right [_, _] (List.perm_append_comm (l₁ := [_, _]) (l₂ := [_, _]))) ?_
        refine AW.rseq ?_
        refine AWL.y rfl rfl (B rfl) (Yv.fieldBox rfl fo_27_1 (E rfl rfl)) ?_
        refine AWL.y rfl rfl (B rfl) (Yv.loadBox rfl ag_22 (i := 2) rfl (E rfl rfl) rfl) ?_
        refine AWL.y rfl rfl (B rfl) (Yv.move rfl (E rfl rfl)) ?_
        refine AWL.y rfl rfl (B rfl) (Yv.move rfl (E rfl rfl)) ?_
        refine AWL.call rfl rfl (B rfl) rfl ce_41 (E rfl rfl) (evsC (E rfl rfl) (evsC (E rfl rfl) (evsC (E rfl rfl) evs0))) (S1 := [_, _]) (S2 := _) rfl (meet41 g.roots [] A20 g.things.length none 0 (by omega) (by omega) (RowOk.nil _) (check_roots hck)) ?_
        rintro t36 S36 ⟨A', c', rfl, rfl⟩
        refine AWL.y rfl rfl (B rfl) (Yv.move rfl (E rfl rfl)) ?_
        refine AWL.y rfl rfl (B rfl) (Yv.extract rfl (E rfl rfl) rfl) ?_
        refine AWL.y rfl rfl (B rfl) (Yv.extract rfl (E rfl rfl) rfl) ?_
        refine AWL.y rfl rfl (B rfl) (Yv.fieldBox rfl fo_27_1 (E rfl rfl)) ?_
        refine AWL.storeBox (i := 4) rfl rfl rfl ag_22 rfl (E rfl rfl) (E rfl rfl) rfl rfl (Nat.le_of_ble_eq_true rfl) ?_
        refine AWL.y rfl rfl (B rfl) (Yv.assign rfl (E rfl rfl)) ?_
        refine AWL.nil ?_
        refine AW.seq ?_
        refine AW.rseq ?_
        refine AWL.y rfl rfl (B rfl) (Yv.assign rfl (E rfl rfl)) ?_
        refine AWL.nil ?_
        refine AW.block ?_
        refine AW.loop5 (fun (m : List Int × List Thing) (A1 : Option Addr) (c1 : Nat) (Ao : Option Addr) (co : Nat) => [(1, true, .v (vp b1)), (2, true, .v (vp b2)), (5, true, .v (.slice A20 g.things.length g.things.length)), (7, true, .v (.slice A1 m.1.length c1)), (8, true, .v (vp b8)), (9, true, .v (.int .i64 (m.2.length : Int)))]) (fun (m : List Int × List Thing) (A1 : Option Addr) (c1 : Nat) (Ao : Option Addr) (co : Nat) => (.row A20 g.things.length g.things.length 3 1 ((numL g.things.length m.1).map z64) :: .row A1 m.1.length c1 3 1 (m.1.map z64) :: [.box b1 27 (gCells g), .box b2 27 [.v (.slice none 0 0), .v (.slice none 0 0)], .box b8 27 [.v (.slice Ao m.2.length co), .sl 2 ((metF [] g.roots).2.flatMap refCells)], .row Ao m.2.length co 24 4 (m.2.flatMap thingCells)])) (fun (m : List Int × List Thing) (A1 : Option Addr) (c1 : Nat) (Ao : Option Addr) (co : Nat) => canonS g g.things.length (metF [] g.roots).1 [] = canonS g (g.things.length - m.2.length) m.1 m.2 ∧ RowOk g.things.length m.1 ∧ m.2.length ≤ m.1.length) (fun (m : List Int × List Thing) (A1 : Option Addr) (c1 : Nat) (Ao : Option Addr) (co : Nat) => g.things.length - m.2.length) (((metF [] g.roots).1, [])) (A') (c') none 0 ?_ ?_ ?_ ?_
        · exact ⟨rfl, hk1, Nat.zero_le _⟩
        · exact (Sub.cons rfl rfl (Sub.cons rfl rfl (Sub.cons rfl rfl (Sub.cons rfl rfl (Sub.cons rfl rfl (Sub.cons rfl rfl Sub.nil))))))
        · rfl
        ·
          intro m A1 c1 Ao co hinv
          obtain ⟨hcn, hok, hle⟩ := hinv
          have hml := hok.len
          refine AW.seq ?_
          refine AW.rseq ?_
          refine AWL.y rfl rfl (B rfl) (Yv.move rfl (E rfl rfl)) ?_
          refine AWL.y rfl rfl (B rfl) (Yv.move rfl (E rfl rfl)) ?_
          refine AWL.y rfl rfl (B rfl) (Yv.lenV rfl so_61 (E rfl rfl)) ?_
          refine AWL.y rfl rfl (B rfl) (Yv.lss rfl (E rfl rfl) (E rfl rfl)) ?_
          refine AWL.nil ?_
          refine AW.cond rfl (fun h2t => ?_) (fun h2f => ?_)
          ·
            try replace h2t := of_decide_eq_true h2t
            have hz := row_at hok (i := m.2.length) (by omega)
            have hzt : ThingOk 1099511627 (g.things.getD (m.1.getD m.2.length 0).toNat default) := hgr.ts _ (getD_mem' (by omega))
            refine AW.skip ?_
            refine AW.seq ?_
            refine AW.block ?_
            refine AW.mid (α := Nat) (fun b10 => [(1, true, .v (vp b1)), (2, true, .v (vp b2)), (5, true, .v (.slice A20 g.things.length g.things.length)), (7, true, .v (.slice A1 m.1.length c1)), (8, true, .v (vp b8)), (9, true, .v (.int .i64 (m.2.length : Int))), (10, true, .v (vp b10))]) (fun b10 => (.row A20 g.things.length g.things.length 3 1 ((numL g.things.length m.1).map z64) :: .row A1 m.1.length c1 3 1 (m.1.map z64) :: [.box b1 27 (gCells g), .box b2 27 [.v (.slice none 0 0), .v (.slice none 0 0)], .box b8 27 [.v (.slice Ao m.2.length co), .sl 2 ((metF [] g.roots).2.flatMap refCells)], .row Ao m.2.length co 24 4 (m.2.flatMap thingCells)]) ++ [.box b10 24 (thingCells (g.things.getD (m.1.getD m.2.length 0).toNat default))]) (fun _ => True) ?_ ?_
            ·
              refine AW.regionP rfl ?_
              refine AWP.take (i := 0) rfl (by kernel_rfl) (by kernel_rfl) (by kernel_rfl) rfl rfl (B rfl) (freeField rfl fo_27_0 (E rfl rfl)) ?_
              refine AWP.take (i := 2) rfl (by kernel_rfl) (by kernel_rfl) (by kernel_rfl) rfl rfl (B rfl) (freeMove rfl (E rfl rfl)) ?_
              refine AWP.take (i := 3) rfl (by kernel_rfl) (by kernel_rfl) (by kernel_rfl) rfl rfl (B rfl) (freeMove rfl (E rfl rfl)) ?_
              refine AWP.three (i := 1) (j := 4) (k := 8) (by kernel_rfl) rfl rfl rfl ?_ ?_ ?_
              ·
                refine AWL.y rfl rfl (B rfl) (Yv.loadBox rfl ag_25 (i := 2) rfl (E rfl rfl) rfl) ?_
                refine AWL.nil ?_
                refine AWP.two (i := 4) (j := 8) (by kernel_rfl) rfl rfl ?_ ?_
                ·
                  refine AWL.y rfl rfl (B rfl) (Yv.indexRow (j := m.2.length) rfl ss_61 (i := 1) rfl (E rfl rfl) (E rfl rfl) (fun hg => ⟨rfl, by omega⟩)) ?_
                  refine AWL.nil ?_
                  refine AWP.two (i := 5) (j := 8) (by kernel_rfl) rfl rfl ?_ ?_
                  ·
                    refine AWL.y rfl rfl (B rfl) (Yv.loadEp rfl ag_3 (i := 1) rfl (E rfl rfl) (fun hg => z64_get (by omega))) ?_
                    refine AWL.nil ?_
                    refine AWP.two (i := 6) (j := 8) (by kernel_rfl) rfl rfl ?_ ?_
                    ·
                      refine AWL.y rfl rfl (B rfl) (Yv.indexSl (j := (m.1.getD m.2.length 0).toNat) rfl ss_25 (B rfl) (E rfl rfl) (E rfl rfl) (fun hg => ⟨(Int.toNat_of_nonneg (by omega)).symm, by simp only [len_things]; omega⟩)) ?_
                      refine AWL.nil ?_
                      refine AWP.two (i := 7) (j := 8) (by kernel_rfl) rfl rfl ?_ ?_
                      ·
                        refine AWL.y rfl rfl (B rfl) (Yv.loadRpA rfl ag_24 (E rfl rfl) (fun hg => thing_get (by omega))) ?_
                        refine AWL.nil ?_
                        refine AWP.one (i := 8) (by kernel_rfl) rfl ?_
                        refine AWL.allocOp rfl rfl (B rfl) rfl zc_24 (fun b10 => ?_)
                        refine AWL.nil ?_
                        refine AWP.one (i := 9) (by kernel_rfl) rfl ?_
                        refine AWL.storeBox (i := 6) rfl rfl rfl ag_24 rfl (E rfl rfl) (E rfl rfl) rfl rfl (Nat.le_of_ble_eq_true rfl) ?_
                        refine AWL.nil ?_
                        refine AWP.done (by kernel_rfl) ?_
                        exact ⟨b10, trivial, Sub.cons rfl rfl (Sub.cons rfl rfl (Sub.cons rfl rfl (Sub.cons rfl rfl (Sub.cons rfl rfl (Sub.cons rfl rfl (Sub.cons rfl rfl Sub.nil)))))), rfl⟩
                      ·
                        refine AWL.allocOp rfl rfl (B rfl) rfl zc_24 (fun b10 => ?_)
                        refine AWL.nil ?_
                        refine AWP.one (i := 7) (by kernel_rfl) rfl ?_
                        refine AWL.y rfl rfl (B rfl) (Yv.loadRpA rfl ag_24 (E rfl rfl) (fun hg => thing_get (by omega))) ?_
                        refine AWL.nil ?_
                        refine AWP.one (i := 9) (by kernel_rfl) rfl ?_
                        refine AWL.storeBox (i := 6) rfl rfl rfl ag_24 rfl (E rfl rfl) (E rfl rfl) rfl rfl (Nat.le_of_ble_eq_true rfl) ?_
                        refine AWL.nil ?_
                        refine AWP.done (by kernel_rfl) ?_
                        exact ⟨b10, trivial, Sub.cons rfl rfl (Sub.cons rfl rfl (Sub.cons rfl rfl (Sub.cons rfl rfl (Sub.cons rfl rfl (Sub.cons rfl rfl (Sub.cons rfl rfl Sub.nil)))))), rfl⟩
                    ·
                      refine AWL.allocOp rfl rfl (B rfl) rfl zc_24 (fun b10 => ?_)
                      refine AWL.nil ?_
                      refine AWP.one (i := 6) (by kernel_rfl) rfl ?_
                      refine AWL.y rfl rfl (B rfl) (Yv.indexSl (j := (m.1.getD m.2.length 0).toNat) rfl ss_25 (B rfl) (E rfl rfl) (E rfl rfl) (fun hg => ⟨(Int.toNat_of_nonneg (by omega)).symm, by simp only [len_things]; omega⟩)) ?_
                      refine AWL.nil ?_
                      refine AWP.one (i := 7) (by kernel_rfl) rfl ?_
                      refine AWL.y rfl rfl (B rfl) (Yv.loadRpA rfl ag_24 (E rfl rfl) (fun hg => thing_get (by omega))) ?_
                      refine AWL.nil ?_
                      refine AWP.one (i := 9) (by kernel_rfl) rfl ?_
                      refine AWL.storeBox (i := 6) rfl rfl rfl ag_24 rfl (E rfl rfl) (E rfl rfl) rfl rfl (Nat.le_of_ble_eq_true rfl) ?_
                      refine AWL.nil ?_
                      refine AWP.done (by kernel_rfl) ?_
                      exact ⟨b10, trivial, Sub.cons rfl rfl (Sub.cons rfl rfl (Sub.cons rfl rfl (Sub.cons rfl rfl (Sub.cons rfl rfl (Sub.cons rfl rfl (Sub.cons rfl rfl Sub.nil)))))), rfl⟩
                  ·
                    refine AWL.allocOp rfl rfl (B rfl) rfl zc_24 (fun b10 => ?_)
                    refine AWL.nil ?_
                    refine AWP.one (i := 5) (by kernel_rfl) rfl ?_
                    refine AWL.y rfl rfl (B rfl) (Yv.loadEp rfl ag_3 (i := 1) rfl (E rfl rfl) (fun hg => z64_get (by omega))) ?_
                    refine AWL.nil ?_
                    refine AWP.one (i := 6) (by kernel_rfl) rfl ?_
                    refine AWL.y rfl rfl (B rfl) (Yv.indexSl (j := (m.1.getD m.2.length 0).toNat) rfl ss_25 (B rfl) (E rfl rfl) (E rfl rfl) (fun hg => ⟨(Int.toNat_of_nonneg (by omega)).symm, by simp only [len_things]; omega⟩)) ?_
                    refine AWL.nil ?_
                    refine AWP.one (i := 7) (by kernel_rfl) rfl ?_
                    refine AWL.y rfl rfl (B rfl) (Yv.loadRpA rfl ag_24 (E rfl rfl) (fun hg => thing_get (by omega))) ?_
                    refine AWL.nil ?_
                    refine AWP.one (i := 9) (by kernel_rfl) rfl ?_
                    refine AWL.storeBox (i := 6) rfl rfl rfl ag_24 rfl (E rfl rfl) (E rfl rfl) rfl rfl (Nat.le_of_ble_eq_true rfl) ?_
                    refine AWL.nil ?_
                    refine AWP.done (by kernel_rfl) ?_
                    exact ⟨b10, trivial, Sub.cons rfl rfl (Sub.cons rfl rfl (Sub.cons rfl rfl (Sub.cons rfl rfl (Sub.cons rfl rfl (Sub.cons rfl rfl (Sub.cons rfl rfl Sub.nil)))))), rfl⟩
                ·
                  refine AWL.allocOp rfl rfl (B rfl) rfl zc_24 (fun b10 => ?_)
                  refine AWL.nil ?_
                  refine AWP.one (i := 4) (by kernel_rfl) rfl ?_
                  refine AWL.y rfl rfl (B rfl) (Yv.indexRow (j := m.2.length) rfl ss_61 (i := 1) rfl (E rfl rfl) (E rfl rfl) (fun hg => ⟨rfl, by omega⟩)) ?_
                  refine AWL.nil ?_
                  refine AWP.one (i := 5) (by kernel_rfl) rfl ?_
                  refine AWL.y rfl rfl (B rfl) (Yv.loadEp rfl ag_3 (i := 1) rfl (E rfl rfl) (fun hg => z64_get (by omega))) ?_
                  refine AWL.nil ?_
                  refine AWP.one (i := 6) (by kernel_rfl) rfl ?_
                  refine AWL.y rfl rfl (B rfl) (Yv.indexSl (j := (m.1.getD m.2.length 0).toNat) rfl ss_25 (B rfl) (E rfl rfl) (E rfl rfl) (fun hg => ⟨(Int.toNat_of_nonneg (by omega)).symm, by simp only [len_things]; omega⟩)) ?_
                  refine AWL.nil ?_
                  refine AWP.one (i := 7) (by kernel_rfl) rfl ?_
                  refine AWL.y rfl rfl (B rfl) (Yv.loadRpA rfl ag_24 (E rfl rfl) (fun hg => thing_get (by omega))) ?_
                  refine AWL.nil ?_
                  refine AWP.one (i := 9) (by kernel_rfl) rfl ?_
                  refine AWL.storeBox (i := 6) rfl rfl rfl ag_24 rfl (E rfl rfl) (E rfl rfl) rfl rfl (Nat.le_of_ble_eq_true rfl) ?_
                  refine AWL.nil ?_
                  refine AWP.done (by kernel_rfl) ?_
                  exact ⟨b10, trivial, Sub.cons rfl rfl (Sub.cons rfl rfl (Sub.cons rfl rfl (Sub.cons rfl rfl (Sub.cons rfl rfl (Sub.cons rfl rfl (Sub.cons rfl rfl Sub.nil)))))), rfl⟩
              ·
                refine AWL.y rfl rfl (B rfl) (Yv.indexRow (j := m.2.length) rfl ss_61 (i := 1) rfl (E rfl rfl) (E rfl rfl) (fun hg => ⟨rfl, by omega⟩)) ?_
                refine AWL.nil ?_
                refine AWP.three (i := 1) (j := 5) (k := 8) (by kernel_rfl) rfl rfl rfl ?_ ?_ ?_
                ·
                  refine AWL.y rfl rfl (B rfl) (Yv.loadBox rfl ag_25 (i := 2) rfl (E rfl rfl) rfl) ?_
                  refine AWL.nil ?_
                  refine AWP.two (i := 5) (j := 8) (by kernel_rfl) rfl rfl ?_ ?_
                  ·
                    refine AWL.y rfl rfl (B rfl) (Yv.loadEp rfl ag_3 (i := 1) rfl (E rfl rfl) (fun hg => z64_get (by omega))) ?_
                    refine AWL.nil ?_
                    refine AWP.two (i := 6) (j := 8) (by kernel_rfl) rfl rfl ?_ ?_
                    ·
                      refine AWL.y rfl rfl (B rfl) (Yv.indexSl (j := (m.1.getD m.2.length 0).toNat) rfl ss_25 (B rfl) (E rfl rfl) (E rfl rfl) (fun hg => ⟨(Int.toNat_of_nonneg (by omega)).symm, by simp only [len_things]; omega⟩)) ?_
                      refine AWL.nil ?_
                      refine AWP.two (i := 7) (j := 8) (by kernel_rfl) rfl rfl ?_ ?_
                      ·
                        refine AWL.y rfl rfl (B rfl) (Yv.loadRpA rfl ag_24 (E rfl rfl) (fun hg => thing_get (by omega))) ?_
                        refine AWL.nil ?_
                        refine AWP.one (i := 8) (by kernel_rfl) rfl ?_
                        refine AWL.allocOp rfl rfl (B rfl) rfl zc_24 (fun b10 => ?_)
                        refine AWL.nil ?_
                        refine AWP.one (i := 9) (by kernel_rfl) rfl ?_
                        refine AWL.storeBox (i := 6) rfl rfl rfl ag_24 rfl (E rfl rfl) (E rfl rfl) rfl rfl (Nat.le_of_ble_eq_true rfl) ?_
                        refine AWL.nil ?_
                        refine AWP.done (by kernel_rfl) ?_
                        exact ⟨b10, trivial, Sub.cons rfl rfl (Sub.cons rfl rfl (Sub.cons rfl rfl (Sub.cons rfl rfl (Sub.cons rfl rfl (Sub.cons rfl rfl (Sub.cons rfl rfl Sub.nil)))))), rfl⟩
                      ·
                        refine AWL.allocOp rfl rfl (B rfl) rfl zc_24 (fun b10 => ?_)
                        refine AWL.nil ?_
                        refine AWP.one (i := 7) (by kernel_rfl) rfl ?_
                        refine AWL.y rfl rfl (B rfl) (Yv.loadRpA rfl ag_24 (E rfl rfl) (fun hg => thing_get (by omega))) ?_
                        refine AWL.nil ?_
                        refine AWP.one (i := 9) (by kernel_rfl) rfl ?_
                        refine AWL.storeBox (i := 6) rfl rfl rfl ag_24 rfl (E rfl rfl) (E rfl rfl) rfl rfl (Nat.le_of_ble_eq_true rfl) ?_
                        refine AWL.nil ?_
                        refine AWP.done (by kernel_rfl) ?_
                        exact ⟨b10, trivial, Sub.cons rfl rfl (Sub.cons rfl rfl (Sub.cons rfl rfl (Sub.cons rfl rfl (Sub.cons rfl rfl (Sub.cons rfl rfl (Sub.cons rfl rfl Sub.nil)))))), rfl⟩
                    ·
                      refine AWL.allocOp rfl rfl (B rfl) rfl zc_24 (fun b10 => ?_)
                      refine AWL.nil ?_
                      refine AWP.one (i := 6) (by kernel_rfl) rfl ?_
                      refine AWL.y rfl rfl (B rfl) (Yv.indexSl (j := (m.1.getD m.2.length 0).toNat) rfl ss_25 (B rfl) (E rfl rfl) (E rfl rfl) (fun hg => ⟨(Int.toNat_of_nonneg (by omega)).symm, by simp only [len_things]; omega⟩)) ?_
                      refine AWL.nil ?_
                      refine AWP.one (i := 7) (by kernel_rfl) rfl ?_
                      refine AWL.y rfl rfl (B rfl) (Yv.loadRpA rfl ag_24 (E rfl rfl) (fun hg => thing_get (by omega))) ?_
                      refine AWL.nil ?_
                      refine AWP.one (i := 9) (by kernel_rfl) rfl ?_
                      refine AWL.storeBox (i := 6) rfl rfl rfl ag_24 rfl (E rfl rfl) (E rfl rfl) rfl rfl (Nat.le_of_ble_eq_true rfl) ?_
                      refine AWL.nil ?_
                      refine AWP.done (by kernel_rfl) ?_
                      exact ⟨b10, trivial, Sub.cons rfl rfl (Sub.cons rfl rfl (Sub.cons rfl rfl (Sub.cons rfl rfl (Sub.cons rfl rfl (Sub.cons rfl rfl (Sub.cons rfl rfl Sub.nil)))))), rfl⟩
                  ·
                    refine AWL.allocOp rfl rfl (B rfl) rfl zc_24 (fun b10 => ?_)
                    refine AWL.nil ?_
                    refine AWP.one (i := 5) (by kernel_rfl) rfl ?_
                    refine AWL.y rfl rfl (B rfl) (Yv.loadEp rfl ag_3 (i := 1) rfl (E rfl rfl) (fun hg => z64_get (by omega))) ?_
                    refine AWL.nil ?_
                    refine AWP.one (i := 6) (by kernel_rfl) rfl ?_
                    refine AWL.y rfl rfl (B rfl) (Yv.indexSl (j := (m.1.getD m.2.length 0).toNat) rfl ss_25 (B rfl) (E rfl rfl) (E rfl rfl) (fun hg => ⟨(Int.toNat_of_nonneg (by omega)).symm, by simp only [len_things]; omega⟩)) ?_
                    refine AWL.nil ?_
                    refine AWP.one (i := 7) (by kernel_rfl) rfl ?_
                    refine AWL.y rfl rfl (B rfl) (Yv.loadRpA rfl ag_24 (E rfl rfl) (fun hg => thing_get (by omega))) ?_
                    refine AWL.nil ?_
                    refine AWP.one (i := 9) (by kernel_rfl) rfl ?_
                    refine AWL.storeBox (i := 6) rfl rfl rfl ag_24 rfl (E rfl rfl) (E rfl rfl) rfl rfl (Nat.le_of_ble_eq_true rfl) ?_
                    refine AWL.nil ?_
                    refine AWP.done (by kernel_rfl) ?_
                    exact ⟨b10, trivial, Sub.cons rfl rfl (Sub.cons rfl rfl (Sub.cons rfl rfl (Sub.cons rfl rfl (Sub.cons rfl rfl (Sub.cons rfl rfl (Sub.cons rfl rfl Sub.nil)))))), rfl⟩
                ·
                  refine AWL.y rfl rfl (B rfl) (Yv.loadEp rfl ag_3 (i := 1) rfl (E rfl rfl) (fun hg => z64_get (by omega))) ?_
                  refine AWL.nil ?_
                  refine AWP.two (i := 1) (j := 8) (by kernel_rfl) rfl rfl ?_ ?_
                  ·
                    refine AWL.y rfl rfl (B rfl) (Yv.loadBox rfl ag_25 (i := 2) rfl (E rfl rfl) rfl) ?_
                    refine AWL.nil ?_
                    refine AWP.two (i := 6) (j := 8) (by kernel_rfl) rfl rfl ?_ ?_
                    ·
                      refine AWL.y rfl rfl (B rfl) (Yv.indexSl (j := (m.1.getD m.2.length 0).toNat) rfl ss_25 (B rfl) (E rfl rfl) (E rfl rfl) (fun hg => ⟨(Int.toNat_of_nonneg (by omega)).symm, by simp only [len_things]; omega⟩)) ?_
                      refine AWL.nil ?_
                      refine AWP.two (i := 7) (j := 8) (by kernel_rfl) rfl rfl ?_ ?_
                      ·
                        refine AWL.y rfl rfl (B rfl) (Yv.loadRpA rfl ag_24 (E rfl rfl) (fun hg => thing_get (by omega))) ?_
                        refine AWL.nil ?_
                        refine AWP.one (i := 8) (by kernel_rfl) rfl ?_
                        refine AWL.allocOp rfl rfl (B rfl) rfl zc_24 (fun b10 => ?_)
                        refine AWL.nil ?_
                        refine AWP.one (i := 9) (by kernel_rfl) rfl ?_
                        refine AWL.storeBox (i := 6) rfl rfl rfl ag_24 rfl (E rfl rfl) (E rfl rfl) rfl rfl (Nat.le_of_ble_eq_true rfl) ?_
                        refine AWL.nil ?_
                        refine AWP.done (by kernel_rfl) ?_
                        exact ⟨b10, trivial, Sub.cons rfl rfl (Sub.cons rfl rfl (Sub.cons rfl rfl (Sub.cons rfl rfl (Sub.cons rfl rfl (Sub.cons rfl rfl (Sub.cons rfl rfl Sub.nil)))))), rfl⟩
                      ·
                        refine AWL.allocOp rfl rfl (B rfl) rfl zc_24 (fun b10 => ?_)
                        refine AWL.nil ?_
                        refine AWP.one (i := 7) (by kernel_rfl) rfl ?_
                        refine AWL.y rfl rfl (B rfl) (Yv.loadRpA rfl ag_24 (E rfl rfl) (fun hg => thing_get (by omega))) ?_
                        refine AWL.nil ?_
                        refine AWP.one (i := 9) (by kernel_rfl) rfl ?_
                        refine AWL.storeBox (i := 6) rfl rfl rfl ag_24 rfl (E rfl rfl) (E rfl rfl) rfl rfl (Nat.le_of_ble_eq_true rfl) ?_
                        refine AWL.nil ?_
                        refine AWP.done (by kernel_rfl) ?_
                        exact ⟨b10, trivial, Sub.cons rfl rfl (Sub.cons rfl rfl (Sub.cons rfl rfl (Sub.cons rfl rfl (Sub.cons rfl rfl (Sub.cons rfl rfl (Sub.cons rfl rfl Sub.nil)))))), rfl⟩
                    ·
                      refine AWL.allocOp rfl rfl (B rfl) rfl zc_24 (fun b10 => ?_)
                      refine AWL.nil ?_
                      refine AWP.one (i := 6) (by kernel_rfl) rfl ?_
                      refine AWL.y rfl rfl (B rfl) (Yv.indexSl (j := (m.1.getD m.2.length 0).toNat) rfl ss_25 (B rfl) (E rfl rfl) (E rfl rfl) (fun hg => ⟨(Int.toNat_of_nonneg (by omega)).symm, by simp only [len_things]; omega⟩)) ?_
                      refine AWL.nil ?_
                      refine AWP.one (i := 7) (by kernel_rfl) rfl ?_
                      refine AWL.y rfl rfl (B rfl) (Yv.loadRpA rfl ag_24 (E rfl rfl) (fun hg => thing_get (by omega))) ?_
                      refine AWL.nil ?_
                      refine AWP.one (i := 9) (by kernel_rfl) rfl ?_
                      refine AWL.storeBox (i := 6) rfl rfl rfl ag_24 rfl (E rfl rfl) (E rfl rfl) rfl rfl (Nat.le_of_ble_eq_true rfl) ?_
                      refine AWL.nil ?_
                      refine AWP.done (by kernel_rfl) ?_
                      exact ⟨b10, trivial, Sub.cons rfl rfl (Sub.cons rfl rfl (Sub.cons rfl rfl (Sub.cons rfl rfl (Sub.cons rfl rfl (Sub.cons rfl rfl (Sub.cons rfl rfl Sub.nil)))))), rfl⟩
                  ·
                    refine AWL.allocOp rfl rfl (B rfl) rfl zc_24 (fun b10 => ?_)
                    refine AWL.nil ?_
                    refine AWP.one (i := 1) (by kernel_rfl) rfl ?_
                    refine AWL.y rfl rfl (B rfl) (Yv.loadBox rfl ag_25 (i := 2) rfl (E rfl rfl) rfl) ?_
                    refine AWL.nil ?_
                    refine AWP.one (i := 6) (by kernel_rfl) rfl ?_
                    refine AWL.y rfl rfl (B rfl) (Yv.indexSl (j := (m.1.getD m.2.length 0).toNat) rfl ss_25 (B rfl) (E rfl rfl) (E rfl rfl) (fun hg => ⟨(Int.toNat_of_nonneg (by omega)).symm, by simp only [len_things]; omega⟩)) ?_
                    refine AWL.nil ?_
                    refine AWP.one (i := 7) (by kernel_rfl) rfl ?_
                    refine AWL.y rfl rfl (B rfl) (Yv.loadRpA rfl ag_24 (E rfl rfl) (fun hg => thing_get (by omega))) ?_
                    refine AWL.nil ?_
                    refine AWP.one (i := 9) (by kernel_rfl) rfl ?_
                    refine AWL.storeBox (i := 6) rfl rfl rfl ag_24 rfl (E rfl rfl) (E rfl rfl) rfl rfl (Nat.le_of_ble_eq_true rfl) ?_
                    refine AWL.nil ?_
                    refine AWP.done (by kernel_rfl) ?_
                    exact ⟨b10, trivial, Sub.cons rfl rfl (Sub.cons rfl rfl (Sub.cons rfl rfl (Sub.cons rfl rfl (Sub.cons rfl rfl (Sub.cons rfl rfl (Sub.cons rfl rfl Sub.nil)))))), rfl⟩
                ·
                  refine AWL.allocOp rfl rfl (B rfl) rfl zc_24 (fun b10 => ?_)
                  refine AWL.nil ?_
                  refine AWP.two (i := 1) (j := 5) (by kernel_rfl) rfl rfl ?_ ?_
                  ·
                    refine AWL.y rfl rfl (B rfl) (Yv.loadBox rfl ag_25 (i := 2) rfl (E rfl rfl) rfl) ?_
                    refine AWL.nil ?_
                    refine AWP.one (i := 5) (by kernel_rfl) rfl ?_
                    refine AWL.y rfl rfl (B rfl) (Yv.loadEp rfl ag_3 (i := 1) rfl (E rfl rfl) (fun hg => z64_get (by omega))) ?_
                    refine AWL.nil ?_
                    refine AWP.one (i := 6) (by kernel_rfl) rfl ?_
                    refine AWL.y rfl rfl (B rfl) (Yv.indexSl (j := (m.1.getD m.2.length 0).toNat) rfl ss_25 (B rfl) (E rfl rfl) (E rfl rfl) (fun hg => ⟨(Int.toNat_of_nonneg (by omega)).symm, by simp only [len_things]; omega⟩)) ?_
                    refine AWL.nil ?_
                    refine AWP.one (i := 7) (by kernel_rfl) rfl ?_
                    refine AWL.y rfl rfl (B rfl) (Yv.loadRpA rfl ag_24 (E rfl rfl) (fun hg => thing_get (by omega))) ?_
                    refine AWL.nil ?_
                    refine AWP.one (i := 9) (by kernel_rfl) rfl ?_
                    refine AWL.storeBox (i := 6) rfl rfl rfl ag_24 rfl (E rfl rfl) (E rfl rfl) rfl rfl (Nat.le_of_ble_eq_true rfl) ?_
                    refine AWL.nil ?_
                    refine AWP.done (by kernel_rfl) ?_
                    exact ⟨b10, trivial, Sub.cons rfl rfl (Sub.cons rfl rfl (Sub.cons rfl rfl (Sub.cons rfl rfl (Sub.cons rfl rfl (Sub.cons rfl rfl (Sub.cons rfl rfl Sub.nil)))))), rfl⟩
                  ·
                    refine AWL.y rfl rfl (B rfl) (Yv.loadEp rfl ag_3 (i := 1) rfl (E rfl rfl) (fun hg => z64_get (by omega))) ?_
                    refine AWL.nil ?_
                    refine AWP.one (i := 1) (by kernel_rfl) rfl ?_
                    refine AWL.y rfl rfl (B rfl) (Yv.loadBox rfl ag_25 (i := 2) rfl (E rfl rfl) rfl) ?_
                    refine AWL.nil ?_
                    refine AWP.one (i := 6) (by kernel_rfl) rfl ?_
                    refine AWL.y rfl rfl (B rfl) (Yv.indexSl (j := (m.1.getD m.2.length 0).toNat) rfl ss_25 (B rfl) (E rfl rfl) (E rfl rfl) (fun hg => ⟨(Int.toNat_of_nonneg (by omega)).symm, by simp only [len_things]; omega⟩)) ?_
                    refine AWL.nil ?_
                    refine AWP.one (i := 7) (by kernel_rfl) rfl ?_
                    refine AWL.y rfl rfl (B rfl) (Yv.loadRpA rfl ag_24 (E rfl rfl) (fun hg => thing_get (by omega))) ?_
                    refine AWL.nil ?_
                    refine AWP.one (i := 9) (by kernel_rfl) rfl ?_
                    refine AWL.storeBox (i := 6) rfl rfl rfl ag_24 rfl (E rfl rfl) (E rfl rfl) rfl rfl (Nat.le_of_ble_eq_true rfl) ?_
                    refine AWL.nil ?_
                    refine AWP.done (by kernel_rfl) ?_
                    exact ⟨b10, trivial, Sub.cons rfl rfl (Sub.cons rfl rfl (Sub.cons rfl rfl (Sub.cons rfl rfl (Sub.cons rfl rfl (Sub.cons rfl rfl (Sub.cons rfl rfl Sub.nil)))))), rfl⟩
              ·
                refine AWL.allocOp rfl rfl (B rfl) rfl zc_24 (fun b10 => ?_)
                refine AWL.nil ?_
                refine AWP.two (i := 1) (j := 4) (by kernel_rfl) rfl rfl ?_ ?_
                ·
                  refine AWL.y rfl rfl (B rfl) (Yv.loadBox rfl ag_25 (i := 2) rfl (E rfl rfl) rfl) ?_
                  refine AWL.nil ?_
                  refine AWP.one (i := 4) (by kernel_rfl) rfl ?_
                  refine AWL.y rfl rfl (B rfl) (Yv.indexRow (j := m.2.length) rfl ss_61 (i := 1) rfl (E rfl rfl) (E rfl rfl) (fun hg => ⟨rfl, by omega⟩)) ?_
                  refine AWL.nil ?_
                  refine AWP.one (i := 5) (by kernel_rfl) rfl ?_
                  refine AWL.y rfl rfl (B rfl) (Yv.loadEp rfl ag_3 (i := 1) rfl (E rfl rfl) (fun hg => z64_get (by omega))) ?_
                  refine AWL.nil ?_
                  refine AWP.one (i := 6) (by kernel_rfl) rfl ?_
                  refine AWL.y rfl rfl (B rfl) (Yv.indexSl (j := (m.1.getD m.2.length 0).toNat) rfl ss_25 (B rfl) (E rfl rfl) (E rfl rfl) (fun hg => ⟨(Int.toNat_of_nonneg (by omega)).symm, by simp only [len_things]; omega⟩)) ?_
                  refine AWL.nil ?_
                  refine AWP.one (i := 7) (by kernel_rfl) rfl ?_
                  refine AWL.y rfl rfl (B rfl) (Yv.loadRpA rfl ag_24 (E rfl rfl) (fun hg => thing_get (by omega))) ?_
                  refine AWL.nil ?_
                  refine AWP.one (i := 9) (by kernel_rfl) rfl ?_
                  refine AWL.storeBox (i := 6) rfl rfl rfl ag_24 rfl (E rfl rfl) (E rfl rfl) rfl rfl (Nat.le_of_ble_eq_true rfl) ?_
                  refine AWL.nil ?_
                  refine AWP.done (by kernel_rfl) ?_
                  exact ⟨b10, trivial, Sub.cons rfl rfl (Sub.cons rfl rfl (Sub.cons rfl rfl (Sub.cons rfl rfl (Sub.cons rfl rfl (Sub.cons rfl rfl (Sub.cons rfl rfl Sub.nil)))))), rfl⟩
                ·
                  refine AWL.y rfl rfl (B rfl) (Yv.indexRow (j := m.2.length) rfl ss_61 (i := 1) rfl (E rfl rfl) (E rfl rfl) (fun hg => ⟨rfl, by omega⟩)) ?_
                  refine AWL.nil ?_
                  refine AWP.two (i := 1) (j := 5) (by kernel_rfl) rfl rfl ?_ ?_
                  ·
                    refine AWL.y rfl rfl (B rfl) (Yv.loadBox rfl ag_25 (i := 2) rfl (E rfl rfl) rfl) ?_
                    refine AWL.nil ?_
                    refine AWP.one (i := 5) (by kernel_rfl) rfl ?_
                    refine AWL.y rfl rfl (B rfl) (Yv.loadEp rfl ag_3 (i := 1) rfl (E rfl rfl) (fun hg => z64_get (by omega))) ?_
                    refine AWL.nil ?_
                    refine AWP.one (i := 6) (by kernel_rfl) rfl ?_
                    refine AWL.y rfl rfl (B rfl) (Yv.indexSl (j := (m.1.getD m.2.length 0).toNat) rfl ss_25 (B rfl) (E rfl rfl) (E rfl rfl) (fun hg => ⟨(Int.toNat_of_nonneg (by omega)).symm, by simp only [len_things]; omega⟩)) ?_
                    refine AWL.nil ?_
                    refine AWP.one (i := 7) (by kernel_rfl) rfl ?_
                    refine AWL.y rfl rfl (B rfl) (Yv.loadRpA rfl ag_24 (E rfl rfl) (fun hg => thing_get (by omega))) ?_
                    refine AWL.nil ?_
                    refine AWP.one (i := 9) (by kernel_rfl) rfl ?_
                    refine AWL.storeBox (i := 6) rfl rfl rfl ag_24 rfl (E rfl rfl) (E rfl rfl) rfl rfl (Nat.le_of_ble_eq_true rfl) ?_
                    refine AWL.nil ?_
                    refine AWP.done (by kernel_rfl) ?_
                    exact ⟨b10, trivial, Sub.cons rfl rfl (Sub.cons rfl rfl (Sub.cons rfl rfl (Sub.cons rfl rfl (Sub.cons rfl rfl (Sub.cons rfl rfl (Sub.cons rfl rfl Sub.nil)))))), rfl⟩
                  ·
                    refine AWL.y rfl rfl (B rfl) (Yv.loadEp rfl ag_3 (i := 1) rfl (E rfl rfl) (fun hg => z64_get (by omega))) ?_
                    refine AWL.nil ?_
                    refine AWP.one (i := 1) (by kernel_rfl) rfl ?_
                    refine AWL.y rfl rfl (B rfl) (Yv.loadBox rfl ag_25 (i := 2) rfl (E rfl rfl) rfl) ?_
                    refine AWL.nil ?_
                    refine AWP.one (i := 6) (by kernel_rfl) rfl ?_
                    refine AWL.y rfl rfl (B rfl) (Yv.indexSl (j := (m.1.getD m.2.length 0).toNat) rfl ss_25 (B rfl) (E rfl rfl) (E rfl rfl) (fun hg => ⟨(Int.toNat_of_nonneg (by omega)).symm, by simp only [len_things]; omega⟩)) ?_
                    refine AWL.nil ?_
                    refine AWP.one (i := 7) (by kernel_rfl) rfl ?_
                    refine AWL.y rfl rfl (B rfl) (Yv.loadRpA rfl ag_24 (E rfl rfl) (fun hg => thing_get (by omega))) ?_
                    refine AWL.nil ?_
                    refine AWP.one (i := 9) (by kernel_rfl) rfl ?_
                    refine AWL.storeBox (i := 6) rfl rfl rfl ag_24 rfl (E rfl rfl) (E rfl rfl) rfl rfl (Nat.le_of_ble_eq_true rfl) ?_
                    refine AWL.nil ?_
                    refine AWP.done (by kernel_rfl) ?_
                    exact ⟨b10, trivial, Sub.cons rfl rfl (Sub.cons rfl rfl (Sub.cons rfl rfl (Sub.cons rfl rfl (Sub.cons rfl rfl (Sub.cons rfl rfl (Sub.cons rfl rfl Sub.nil)))))), rfl⟩
            ·
              rintro b10 hmid
              refine AW.rseq ?_
              refine AWL.y rfl rfl (B rfl) (Yv.fieldBox rfl fo_24_3 (E rfl rfl)) ?_
              refine AWL.y rfl rfl (B rfl) (Yv.loadBox rfl ag_22 (i := 6) rfl (E rfl rfl) rfl) ?_
              refine AWL.y rfl rfl (B rfl) (Yv.move rfl (E rfl rfl)) ?_
              refine AWL.y rfl rfl (B rfl) (Yv.move rfl (E rfl rfl)) ?_
              refine AWL.call rfl rfl (B rfl) rfl ce_41 (E rfl rfl) (evsC (E rfl rfl) (evsC (E rfl rfl) (evsC (E rfl rfl) evs0))) (S1 := [_, _]) (S2 := _) rfl (meet41 (g.things.getD (m.1.getD m.2.length 0).toNat default).refs m.1 A20 g.things.length A1 c1 hzt.rl (by omega) hok (check_thing hck _ (getD_mem' (by omega))).2) ?_
              rintro t59 S59 ⟨A2, c2, rfl, rfl⟩
              refine AWL.y rfl rfl (B rfl) (Yv.move rfl (E rfl rfl)) ?_
              refine AWL.y rfl rfl (B rfl) (Yv.extract rfl (E rfl rfl) rfl) ?_
              refine AWL.y rfl rfl (B rfl) (Yv.extract rfl (E rfl rfl) rfl) ?_
              refine AWL.y rfl rfl (B rfl) (Yv.fieldBox rfl fo_24_3 (E rfl rfl)) ?_
              refine AWL.storeBox (i := 6) rfl rfl rfl ag_22 rfl (E rfl rfl) (E rfl rfl) rfl rfl (Nat.le_of_ble_eq_true rfl) ?_
              refine AWL.y rfl rfl (B rfl) (Yv.assign rfl (E rfl rfl)) ?_
              refine AWL.nil ?_
              refine AW.region ?_
              refine AWL.y rfl rfl (B rfl) (Yv.fieldBox rfl fo_27_0 (E rfl rfl)) ?_
              refine AWL.y rfl rfl (B rfl) (Yv.loadBox rfl ag_25 (i := 4) rfl (E rfl rfl) rfl) ?_
              refine AWL.y rfl rfl (B rfl) (Yv.loadBoxA rfl ag_24 (i := 6) rfl (E rfl rfl) rfl rfl) ?_
              refine AWL.buildSliceE rfl rfl (B rfl) rfl el_25 (B rfl) rfl (evsC (E rfl rfl) evs0) (Nat.le_of_ble_eq_true rfl) rfl rfl ?_
              refine AWL.appendRow (i := 5) rfl rfl (B rfl) rfl el_25 (B rfl) rfl (E rfl rfl) (SrcT.sl so_25 (B rfl) (E rfl rfl) rfl) (by unfold maxLen; omega) (by omega) (fun A67 c67 => ?_)
              refine AWL.y rfl rfl (B rfl) (Yv.fieldBox rfl fo_27_0 (E rfl rfl)) ?_
              refine AWL.storeBox (i := 4) rfl rfl rfl ag_25 rfl (E rfl rfl) (E rfl rfl) rfl rfl (Nat.le_of_ble_eq_true rfl) ?_
              refine AWL.nil ?_
              refine AW.dropAt 6 ?_
              refine AW.region ?_
              refine AWL.y rfl rfl (B rfl) (Yv.move rfl (E rfl rfl)) ?_
              refine AWL.y rfl rfl (B rfl) (Yv.addN_i64 rfl (E rfl rfl) (E rfl rfl) (fun hg => by omega)) ?_
              refine AWL.y rfl rfl (B rfl) (Yv.assign rfl (E rfl rfl)) ?_
              refine AWL.nil ?_
              refine ⟨((metF m.1 (g.things.getD (m.1.getD m.2.length 0).toNat default).refs).1, m.2 ++ [reR (g.things.getD (m.1.getD m.2.length 0).toNat default) (metF m.1 (g.things.getD (m.1.getD m.2.length 0).toNat default).refs).2]), A2, c2, A67, c67, ⟨?_, ?_, ?_⟩, ?_, ?_, ?_⟩
              · rw [hcn, show g.things.length - m.2.length = (g.things.length - (m.2 ++ [reR (g.things.getD (m.1.getD m.2.length 0).toNat default) (metF m.1 (g.things.getD (m.1.getD m.2.length 0).toNat default).refs).2]).length) + 1 by rw [List.length_append, List.length_singleton]; omega, canonS_step (by omega)]
              · exact metF_ok hok (check_thing hck _ (getD_mem' (by omega))).2
              · have := metF_row0 (g.things.getD (m.1.getD m.2.length 0).toNat default).refs m.1
                rw [List.length_append, List.length_singleton]; show m.2.length + 1 ≤ (metF m.1 (g.things.getD (m.1.getD m.2.length 0).toNat default).refs).1.length; omega
              · rw [List.length_append, List.length_singleton]; omega
              · exact (Sub.cons rfl rfl (Sub.cons rfl rfl (Sub.cons rfl rfl (Sub.cons rfl rfl (Sub.cons rfl rfl (Sub.cons rfl (by simp) Sub.nil))))))
              · simp only [thing_flat, List.length_append, List.length_singleton]
                rfl
          ·
            try replace h2f := of_decide_eq_false h2f
            refine AW.exit ?_
            refine AW.freezeCell 5 4 0 rfl (by decide) rfl rfl ?_
            refine AW.rseq ?_
            refine AWL.y rfl rfl (B rfl) (Yv.loadBoxA rfl ag_27 (i := 4) rfl (E rfl rfl) rfl rfl) ?_
            refine AWL.storeBox (i := 3) rfl rfl rfl ag_27 rfl (E rfl rfl) (E rfl rfl) rfl rfl (Nat.le_of_ble_eq_true rfl) ?_
            refine AWL.y rfl rfl (B rfl) (Yv.assign rfl (E rfl rfl)) ?_
            refine AWL.nil ?_
            refine AW.ret (retI (.cellA (i := 3) rfl ag_27 rfl rfl rfl (.tmp rfl .nil)) ?_)
            have e1 : canonS g g.things.length (metF [] g.roots).1 [] = (m.1, m.2) := (by rw [hcn, canonS_end (by omega)])
            have e2 : canonG g = ⟨m.2, (metF [] g.roots).2⟩ := (by rw [canonG, if_pos hck, canonF, e1])
            rw [h0f, e2]
            rfl

set_option maxHeartbeats 400000 in
theorem refSame22 (g h : Graph) (hgr : GraphOk 1099511627 g) (hhr : GraphOk 1099511627 h) :
    ACalls Try.prog 22 [graphT g, graphT h] [] fun t_ S => t_ = .v (.bool (sameF g h)) := by
  have ag := canonG_ok (by omega) hgr
  have ah := canonG_ok (by omega) hhr
  refine ACalls.intro Try.func22 rfl Try.ntmps22 (Nat.le_of_ble_eq_true rfl) rfl fun X w0 => ?_
  refine AW.rseq ?_
  refine AWL.boxOp rfl rfl (B rfl) rfl (E rfl rfl) rfl (fun b2 => ?_)
  refine AWL.boxOp rfl rfl (B rfl) rfl (E rfl rfl) rfl (fun b3 => ?_)
  refine AWL.y rfl rfl (B rfl) (Yv.assign rfl (E rfl rfl)) ?_
  refine AWL.nil ?_
  refine AW.rseq ?_
  refine AWL.y rfl rfl (B rfl) (Yv.loadBoxA rfl ag_27 (i := 0) rfl (E rfl rfl) rfl rfl) ?_
  refine AWL.callT rfl rfl (B rfl) rfl ce_17 (E rfl rfl) (evsC (E rfl rfl) evs0) (refCanon17 g hgr) ?_
  rintro t12 S12 rfl
  refine AWL.y rfl rfl (B rfl) (Yv.move rfl (E rfl rfl)) ?_
  refine AWL.y rfl rfl (B rfl) (Yv.extract rfl (E rfl rfl) rfl) ?_
  refine AWL.y rfl rfl (B rfl) (Yv.extract rfl (E rfl rfl) rfl) ?_
  refine AWL.allocOp rfl rfl (B rfl) rfl zc_27 (fun b5 => ?_)
  refine AWL.storeBox (i := 2) rfl rfl rfl ag_27 rfl (E rfl rfl) (E rfl rfl) rfl rfl (Nat.le_of_ble_eq_true rfl) ?_
  refine AWL.y rfl rfl (B rfl) (Yv.assign rfl (E rfl rfl)) ?_
  refine AWL.nil ?_
  refine AW.rseq ?_
  refine AWL.y rfl rfl (B rfl) (Yv.loadBoxA rfl ag_27 (i := 1) rfl (E rfl rfl) rfl rfl) ?_
  refine AWL.callT rfl rfl (B rfl) rfl ce_17 (E rfl rfl) (evsC (E rfl rfl) evs0) (refCanon17 h hhr) ?_
  rintro t17 S17 rfl
  refine AWL.y rfl rfl (B rfl) (Yv.move rfl (E rfl rfl)) ?_
  refine AWL.y rfl rfl (B rfl) (Yv.extract rfl (E rfl rfl) rfl) ?_
  refine AWL.y rfl rfl (B rfl) (Yv.extract rfl (E rfl rfl) rfl) ?_
  refine AWL.allocOp rfl rfl (B rfl) rfl zc_27 (fun b7 => ?_)
  refine AWL.storeBox (i := 3) rfl rfl rfl ag_27 rfl (E rfl rfl) (E rfl rfl) rfl rfl (Nat.le_of_ble_eq_true rfl) ?_
  refine AWL.y rfl rfl (B rfl) (Yv.assign rfl (E rfl rfl)) ?_
  refine AWL.nil ?_
  refine AW.rseq ?_
  refine AWL.y rfl rfl (B rfl) (Yv.loadBoxA rfl ag_27 (i := 2) rfl (E rfl rfl) rfl rfl) ?_
  refine AWL.y rfl rfl (B rfl) (Yv.loadBoxA rfl ag_27 (i := 3) rfl (E rfl rfl) rfl rfl) ?_
  refine AWL.callP rfl rfl (B rfl) rfl ce_19 (E rfl rfl) (evsC (E rfl rfl) (evsC (E rfl rfl) evs0)) (refEqual19 (canonG g) (canonG h) ag ah) (fun t S h => h) ?_
  refine AWL.y rfl rfl (B rfl) (Yv.assign rfl (E rfl rfl)) ?_
  refine AWL.nil ?_
  refine AW.rseq ?_
  refine AWL.y rfl rfl (B rfl) (Yv.move rfl (E rfl rfl)) ?_
  refine AWL.y rfl rfl (B rfl) (Yv.eql rfl (E rfl rfl) (E rfl rfl)) ?_
  refine AWL.y rfl rfl (B rfl) (Yv.move rfl (E rfl rfl)) ?_
  refine AWL.ygT rfl rfl rfl rfl (B rfl) (Yv.move rfl (E rfl rfl)) ?_
  refine AWL.ygT rfl rfl rfl rfl (B rfl) (Yv.eql rfl (Eg rfl rfl id) (E rfl rfl)) ?_
  refine AWL.y rfl rfl (B rfl) (Yv.pickAnd rfl (E rfl rfl) (Eg rfl rfl id)) ?_
  refine AWL.y rfl rfl (B rfl) (Yv.move rfl (E rfl rfl)) ?_
  refine AWL.ygT rfl rfl rfl rfl (B rfl) (Yv.move rfl (E rfl rfl)) ?_
  refine AWL.y rfl rfl (B rfl) (Yv.pickAnd rfl (E rfl rfl) (Eg rfl rfl id)) ?_
  refine AWL.y rfl rfl (B rfl) (Yv.assign rfl (E rfl rfl)) ?_
  refine AWL.nil ?_
  refine AW.ret (retI (.tmp rfl .nil) ?_)
  show T.v (.bool _) = T.v (.bool _)
  rw [← same_graphEq]

set_option maxHeartbeats 1000000 in
theorem HeapNumbers4 (g h : Graph) (hg : GraphOk 1048576 g) (hh : GraphOk 1048576 h) :
    ACalls Try.prog 4 [graphT g, graphT h] [] (fun t_ S => t_ = .v (.bool true)) := by
  have hgr := graph_up (by decide) hg
  have hhr := graph_up (by decide) hh
  have hcg := canonG_ok (by omega) hgr
  have hge : graphEq (canonG g) (canonG g) = true := graphEq_iff.2 rfl
  refine ACalls.intro Try.func4 rfl Try.ntmps4 (Nat.le_of_ble_eq_true rfl) rfl fun X w0 => ?_
  refine AW.rseq ?_
  refine AWL.boxOp rfl rfl (B rfl) rfl (E rfl rfl) rfl (fun b2 => ?_)
  refine AWL.boxOp rfl rfl (B rfl) rfl (E rfl rfl) rfl (fun b3 => ?_)
  refine AWL.y rfl rfl (B rfl) (Yv.assign rfl (E rfl rfl)) ?_
  refine AWL.nil ?_
  refine AW.rseq ?_
  refine AWL.y rfl rfl (B rfl) (Yv.loadBoxA rfl ag_27 (i := 0) rfl (E rfl rfl) rfl rfl) ?_
  refine AWL.callT rfl rfl (B rfl) rfl ce_16 (E rfl rfl) (evsC (E rfl rfl) evs0) (own16 g hgr) ?_
  rintro t14 S14 rfl
  refine AWL.allocOp rfl rfl (B rfl) rfl zc_27 (fun b5 => ?_)
  refine AWL.storeBox (i := 2) rfl rfl rfl ag_27 rfl (E rfl rfl) (E rfl rfl) rfl rfl (Nat.le_of_ble_eq_true rfl) ?_
  refine AWL.nil ?_
  refine AW.rseq ?_
  refine AWL.y rfl rfl (B rfl) (Yv.loadBoxA rfl ag_27 (i := 1) rfl (E rfl rfl) rfl rfl) ?_
  refine AWL.callT rfl rfl (B rfl) rfl ce_16 (E rfl rfl) (evsC (E rfl rfl) evs0) (own16 h hhr) ?_
  rintro t16 S16 rfl
  refine AWL.allocOp rfl rfl (B rfl) rfl zc_27 (fun b6 => ?_)
  refine AWL.storeBox (i := 3) rfl rfl rfl ag_27 rfl (E rfl rfl) (E rfl rfl) rfl rfl (Nat.le_of_ble_eq_true rfl) ?_
  refine AWL.nil ?_
  refine AW.rseq ?_
  refine AWL.y rfl rfl (B rfl) (Yv.loadBoxA rfl ag_27 (i := 0) rfl (E rfl rfl) rfl rfl) ?_
  refine AWL.callT rfl rfl (B rfl) rfl ce_17 (E rfl rfl) (evsC (E rfl rfl) evs0) (refCanon17 g hgr) ?_
  rintro t19 S19 rfl
  refine AWL.y rfl rfl (B rfl) (Yv.move rfl (E rfl rfl)) ?_
  refine AWL.y rfl rfl (B rfl) (Yv.extract rfl (E rfl rfl) rfl) ?_
  refine AWL.y rfl rfl (B rfl) (Yv.extract rfl (E rfl rfl) rfl) ?_
  refine AWL.allocOp rfl rfl (B rfl) rfl zc_27 (fun b7 => ?_)
  refine AWL.storeBox (i := 4) rfl rfl rfl ag_27 rfl (E rfl rfl) (E rfl rfl) rfl rfl (Nat.le_of_ble_eq_true rfl) ?_
  refine AWL.y rfl rfl (B rfl) (Yv.assign rfl (E rfl rfl)) ?_
  refine AWL.nil ?_
  refine AW.rseq ?_
  refine AWL.y rfl rfl (B rfl) (Yv.loadBoxA rfl ag_27 (i := 2) rfl (E rfl rfl) rfl rfl) ?_
  refine AWL.retype (k := 23) (t' := graphT g) rfl (graphM_le g) ?_
  refine AWL.call rfl rfl (B rfl) rfl ce_18 (E rfl rfl) (evsC (E rfl rfl) evs0) (S1 := []) (S2 := _) rfl (Canon18R g hgr) ?_
  rintro t24 S24 ⟨A, c, Ar, nr, cr, fs, e0, e1, e2, e3, e5, e6, e7, rfl, rfl, hfs⟩
  refine AWL.dropAt 7 (AWL.dropAt 6 (AWL.dropAt 5 (AWL.dropAt 3 (AWL.dropAt 2 (AWL.dropAt 1 (AWL.dropAt 0 ?_))))))
  refine AWL.perm (List.perm_append_comm (l₁ := [.box b2 27 (gCells g), .box b3 27 (gCells h), .box b5 27 (gMCells g), .box b6 27 (gMCells h), .box b7 27 (gCells (canonG g))]) (l₂ := ([Ent.row Ar nr cr 54 2 ((canonG g).roots.flatMap refCells), Ent.row A fs.length c 24 4 (fs.flatMap frCells)] ++ fs.map frRow))) ?_
  refine AWL.y rfl rfl (B rfl) (Yv.move rfl (E rfl rfl)) ?_
  refine AWL.y rfl rfl (B rfl) (Yv.extract rfl (E rfl rfl) rfl) ?_
  refine AWL.y rfl rfl (B rfl) (Yv.extract rfl (E rfl rfl) rfl) ?_
  refine AWL.allocOp rfl rfl (B rfl) rfl zc_27 (fun b9 => ?_)
  refine AWL.perm (List.perm_append_singleton _ _).symm ?_
  refine AWL.storeBox (i := 0) rfl rfl rfl ag_27 rfl (E rfl rfl) (E rfl rfl) rfl rfl (Nat.le_of_ble_eq_true rfl) ?_
  refine AWL.y rfl rfl (B rfl) (Yv.assign rfl (E rfl rfl)) ?_
  refine AWL.nil ?_
  refine AW.rseq ?_
  refine AWL.y rfl rfl (B rfl) (Yv.loadBoxA rfl ag_27 (i := 3) rfl (E rfl rfl) rfl rfl) ?_
  refine AWL.retype (k := 28) (t' := graphT g) rfl (graphM_le g) ?_
  refine AWL.callT rfl rfl (B rfl) rfl ce_18 (E rfl rfl) (evsC (E rfl rfl) evs0) (Canon18 g hgr) ?_
  rintro t29 S29 rfl
  refine AWL.y rfl rfl (B rfl) (Yv.move rfl (E rfl rfl)) ?_
  refine AWL.y rfl rfl (B rfl) (Yv.extract rfl (E rfl rfl) rfl) ?_
  refine AWL.y rfl rfl (B rfl) (Yv.extract rfl (E rfl rfl) rfl) ?_
  refine AWL.allocOp rfl rfl (B rfl) rfl zc_27 (fun b11 => ?_)
  refine AWL.perm (List.perm_append_singleton _ _).symm ?_
  refine AWL.storeBox (i := 0) rfl rfl rfl ag_27 rfl (E rfl rfl) (E rfl rfl) rfl rfl (Nat.le_of_ble_eq_true rfl) ?_
  refine AWL.y rfl rfl (B rfl) (Yv.assign rfl (E rfl rfl)) ?_
  refine AWL.nil ?_
  refine AW.eqS (S' := (.box b11 27 (gCells (canonG g)) :: .box b9 27 [.v (.slice A fs.length c), .v (.slice Ar nr cr)] :: ([.box b2 27 (gCells g), .box b3 27 (gCells h), .box b5 27 (gMCells g), .box b6 27 (gMCells h), .box b7 27 (gCells (canonG g))] ++ ([Ent.row Ar nr cr 54 2 ((canonG g).roots.flatMap refCells), Ent.row A fs.length c 24 4 (fs.flatMap frCells)] ++ fs.map frRow)))) rfl ?_
  refine AW.seq ?_
  refine AW.rseqQ rfl (by kernel_rfl) ?_
  refine AWQ.y rfl rfl (B rfl) (Yv.move rfl (E rfl rfl)) ?_
  refine AWQ.y rfl rfl (B rfl) (Yv.move rfl (E rfl rfl)) ?_
  refine AWQ.y rfl rfl (B rfl) (Yv.neq rfl (E rfl rfl) (E rfl rfl)) ?_
  refine AWQ.y rfl rfl (B rfl) (Yv.move rfl (E rfl rfl)) ?_
  refine AWQ.ygF rfl rfl rfl rfl (B rfl) (Yv.loadBoxA rfl ag_27 (i := 1) rfl (E rfl rfl) rfl rfl) ?_
  refine AWQ.ygF rfl rfl rfl rfl (B rfl) (Yv.loadBoxA rfl ag_27 (i := 6) rfl (E rfl rfl) rfl rfl) ?_
  refine AWQ.callSeesF (ts := [graphT (canonG g), graphT (canonG g)]) rfl rfl rfl rfl (B rfl) rfl ce_19 (E rfl rfl) (Seens.two (sees_graph (g := canonG g) (Eg rfl rfl id) (List.mem_cons_of_mem _ (List.mem_cons_of_mem _ (List.mem_append.2 (.inr (List.mem_append.2 (.inl (List.mem_cons_of_mem _ (List.mem_singleton.2 rfl)))))))) (List.mem_cons_of_mem _ (List.mem_cons_of_mem _ (List.mem_append.2 (.inr (List.mem_append.2 (.inl (List.mem_cons_self ..))))))) (fun f hf => List.mem_cons_of_mem _ (List.mem_cons_of_mem _ (List.mem_append.2 (.inr (List.mem_append.2 (.inr (List.mem_map_of_mem hf))))))) hfs) (Sees.ev (Eg rfl rfl id))) (fun hg => refEqual19 (canonG g) (canonG g) hcg hcg) (fun t S h => h) ?_
  refine AWQ.ygF rfl rfl rfl rfl (B rfl) (Yv.not rfl (Eg rfl rfl id)) ?_
  refine AWQ.y rfl rfl (B rfl) (Yv.pickOr (t := .const (.bool true)) rfl (E rfl rfl) (Eg rfl rfl id)) ?_
  refine AWQ.y rfl rfl (B rfl) (Yv.move rfl (E rfl rfl)) ?_
  refine AWQ.ygF rfl rfl rfl rfl (B rfl) (Yv.loadBoxA rfl ag_27 (i := 4) rfl (E rfl rfl) rfl rfl) ?_
  refine AWQ.retype (k := 42) (t' := graphT g) rfl (graphM_le g) ?_
  refine AWQ.callPgF rfl rfl rfl rfl (B rfl) rfl ce_13 (E rfl rfl) (evsC (Eg rfl rfl id) evs0) (fun hg => Check13 g hgr) (fun t S h => h) ?_
  refine AWQ.ygF rfl rfl rfl rfl (B rfl) (Yv.loadBoxA rfl ag_27 (i := 2) rfl (E rfl rfl) rfl rfl) ?_
  refine AWQ.callPgF rfl rfl rfl rfl (B rfl) rfl ce_14 (E rfl rfl) (evsC (Eg rfl rfl id) evs0) (fun hg => refCheck14 g hgr) (fun t S h => h) ?_
  refine AWQ.ygF rfl rfl rfl rfl (B rfl) (Yv.neq rfl (Eg rfl rfl id) (Eg rfl rfl id)) ?_
  refine AWQ.y rfl rfl (B rfl) (Yv.pickOr (t := .const (.bool true)) rfl (E rfl rfl) (Eg rfl rfl id)) ?_
  refine AWQ.nil ?_
  refine AW.cond rfl (fun h0t => ?_) (fun h0f => ?_)
  ·
    try replace h0t := of_decide_eq_true h0t
    rw [hge] at h0t
    simp at h0t
  ·
    try replace h0f := of_decide_eq_false h0f
    refine AW.skip ?_
    refine AW.rseq ?_
    refine AWL.y rfl rfl (B rfl) (Yv.loadBoxA rfl ag_27 (i := 1) rfl (E rfl rfl) rfl rfl) ?_
    refine AWL.retype (k := 48) (t' := .agg [.v (.slice A fs.length c), .v (.slice Ar nr cr)]) rfl (fun w L u h => h) ?_
    refine AWL.perm (List.perm_append_comm (l₁ := ([Ent.row Ar nr cr 54 2 ((canonG g).roots.flatMap refCells), Ent.row A fs.length c 24 4 (fs.flatMap frCells)] ++ fs.map frRow)) (l₂ := .box b11 27 (gCells (canonG g)) :: .box b9 27 [.v (.slice A fs.length c), .v (.slice Ar nr cr)] :: [.box b2 27 (gCells g), .box b3 27 (gCells h), .box b5 27 (gMCells g), .box b6 27 (gMCells h), .box b7 27 (gCells (canonG g))])) ?_
    refine AWL.call rfl rfl (B rfl) rfl ce_20 (E rfl rfl) (evsC (E rfl rfl) evs0) (S1 := ([Ent.row Ar nr cr 54 2 ((canonG g).roots.flatMap refCells), Ent.row A fs.length c 24 4 (fs.flatMap frCells)] ++ fs.map frRow)) (S2 := _) rfl (spoil20 A c Ar nr cr fs ((canonG g).roots.flatMap refCells)) ?_
    rintro t49 S49 _
    refine AWL.drop (List.sublist_append_right S49 _) ?_
    refine AWL.nil ?_
    refine AW.rseqQ rfl (by kernel_rfl) ?_
    refine AWQ.y rfl rfl (B rfl) (Yv.loadBoxA rfl ag_27 (i := 0) rfl (E rfl rfl) rfl rfl) ?_
    refine AWQ.y rfl rfl (B rfl) (Yv.loadBoxA rfl ag_27 (i := 6) rfl (E rfl rfl) rfl rfl) ?_
    refine AWQ.callP rfl rfl (B rfl) rfl ce_19 (E rfl rfl) (evsC (E rfl rfl) (evsC (E rfl rfl) evs0)) (refEqual19 (canonG g) (canonG g) hcg hcg) (fun t S h => h) ?_
    refine AWQ.y rfl rfl (B rfl) (Yv.move rfl (E rfl rfl)) ?_
    refine AWQ.ygT rfl rfl rfl rfl (B rfl) (Yv.loadBoxA rfl ag_27 (i := 4) rfl (E rfl rfl) rfl rfl) ?_
    refine AWQ.retype (k := 54) (t' := graphT g) rfl (graphM_le g) ?_
    refine AWQ.ygT rfl rfl rfl rfl (B rfl) (Yv.loadBoxA rfl ag_27 (i := 5) rfl (E rfl rfl) rfl rfl) ?_
    refine AWQ.retype (k := 55) (t' := graphT h) rfl (graphM_le h) ?_
    refine AWQ.callPgT rfl rfl rfl rfl (B rfl) rfl ce_21 (E rfl rfl) (evsC (Eg rfl rfl id) (evsC (Eg rfl rfl id) evs0)) (fun hg => Same21 g h hgr hhr) (fun t S h => h) ?_
    refine AWQ.ygT rfl rfl rfl rfl (B rfl) (Yv.loadBoxA rfl ag_27 (i := 2) rfl (E rfl rfl) rfl rfl) ?_
    refine AWQ.ygT rfl rfl rfl rfl (B rfl) (Yv.loadBoxA rfl ag_27 (i := 3) rfl (E rfl rfl) rfl rfl) ?_
    refine AWQ.callPgT rfl rfl rfl rfl (B rfl) rfl ce_22 (E rfl rfl) (evsC (Eg rfl rfl id) (evsC (Eg rfl rfl id) evs0)) (fun hg => refSame22 g h hgr hhr) (fun t S h => h) ?_
    refine AWQ.ygT rfl rfl rfl rfl (B rfl) (Yv.eqlB rfl bo_4 (Eg rfl rfl id) (Eg rfl rfl id)) ?_
    refine AWQ.y rfl rfl (B rfl) (Yv.pickAnd rfl (E rfl rfl) (Eg rfl rfl id)) ?_
    refine AWQ.y rfl rfl (B rfl) (Yv.move rfl (E rfl rfl)) ?_
    refine AWQ.ygT rfl rfl rfl rfl (B rfl) (Yv.loadBoxA rfl ag_27 (i := 4) rfl (E rfl rfl) rfl rfl) ?_
    refine AWQ.ygT rfl rfl rfl rfl (B rfl) (Yv.loadBoxA rfl ag_27 (i := 2) rfl (E rfl rfl) rfl rfl) ?_
    refine AWQ.callPgT rfl rfl rfl rfl (B rfl) rfl ce_23 (E rfl rfl) (evsC (Eg rfl rfl id) (evsC (Eg rfl rfl id) evs0)) (fun hg => kept23 g g hgr hgr) (fun t S h => h) ?_
    refine AWQ.y rfl rfl (B rfl) (Yv.pickAnd rfl (E rfl rfl) (Eg rfl rfl id)) ?_
    refine AWQ.y rfl rfl (B rfl) (Yv.move rfl (E rfl rfl)) ?_
    refine AWQ.ygT rfl rfl rfl rfl (B rfl) (Yv.loadBoxA rfl ag_27 (i := 5) rfl (E rfl rfl) rfl rfl) ?_
    refine AWQ.ygT rfl rfl rfl rfl (B rfl) (Yv.loadBoxA rfl ag_27 (i := 3) rfl (E rfl rfl) rfl rfl) ?_
    refine AWQ.callPgT rfl rfl rfl rfl (B rfl) rfl ce_23 (E rfl rfl) (evsC (Eg rfl rfl id) (evsC (Eg rfl rfl id) evs0)) (fun hg => kept23 h h hhr hhr) (fun t S h => h) ?_
    refine AWQ.y rfl rfl (B rfl) (Yv.pickAnd rfl (E rfl rfl) (Eg rfl rfl id)) ?_
    refine AWQ.y rfl rfl (B rfl) (Yv.move rfl (E rfl rfl)) ?_
    refine AWQ.callPgT rfl rfl rfl rfl (B rfl) rfl ce_15 (E rfl rfl) evs0 (fun hg => known15) (fun t S h => h) ?_
    refine AWQ.y rfl rfl (B rfl) (Yv.pickAnd rfl (E rfl rfl) (Eg rfl rfl id)) ?_
    refine AWQ.y rfl rfl (B rfl) (Yv.assign rfl (E rfl rfl)) ?_
    refine AWQ.nil ?_
    refine AW.ret (retI (.tmp rfl .nil) ?_)
    rw [hge, graphEq_iff.2 (rfl : g = g), graphEq_iff.2 (rfl : h = h)]
    cases sameF g h <;> rfl

end Go.Proofs.Ytbndnmmceccbkaa
