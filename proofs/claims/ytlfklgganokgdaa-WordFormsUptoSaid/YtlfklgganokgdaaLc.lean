/-
  TEXTS JOINED: Wk5, Aw29, Wt, Wu, Wk6, Aw30, Wv, Wk7, Wx, Wk8.
-/
import Derived.Test.YtlfklgganokgdaaLb
set_option linter.unusedSimpArgs false
set_option linter.unusedVariables false
set_option linter.unusedSectionVars false
set_option linter.unnecessarySimpa false
namespace Go.Proofs.Ytlfklgganokgdaa
open Go Go.RowKit
set_option linter.unusedVariables false
set_option linter.unnecessarySimpa false
set_option linter.unusedSimpArgs false

set_option maxHeartbeats 4000000 in
theorem Reads42 (i : Ins) (hi : i.args.length ≤ 1048576) :
    ACalls Try.prog 42 [.agg (insCells i)] [] (fun t S => t = .sl 1 ((readsF i).map zi)) := by
  have hr1 := rd1_len i
  have hr2 := rd2_len i
  refine ACalls.intro Try.func42 rfl Try.ntmps42 (Nat.le_of_ble_eq_true rfl) rfl fun X w0 => ?_
  refine AW.rseq ?_
  refine AWL.boxOp rfl rfl (B rfl) rfl (E rfl rfl) rfl (fun b1 => ?_)
  refine Y1 (Yv.assign rfl eV) ?_
  refine nl ?_
  refine AW.rseq ?_
  refine Y1 (Yv.fieldBox rfl fo_58_0 eV) ?_
  refine Y1 (Yv.loadBox rfl ag_3 (i := 0) rfl (E rfl rfl) rfl) ?_
  refine AWL.callT rfl rfl (B rfl) rfl ce_36 (E rfl rfl) (evsC (E rfl rfl) evs0) (Of36 i.kind) ?_
  rintro t9 S9 rfl
  refine Y1 (Yv.move rfl eV) ?_
  refine Y1 (Yv.extract rfl eV rfl) ?_
  refine Y1 (Yv.extract rfl eV rfl) ?_
  refine AWL.allocOp rfl rfl (B rfl) rfl zc_94 (fun b3 => ?_)
  refine AWL.storeBox (i := 1) rfl rfl rfl ag_94 rfl (E rfl rfl) (E rfl rfl) rfl rfl (Nat.le_of_ble_eq_true rfl) ?_
  refine Y1 (Yv.assign rfl eV) ?_
  refine nl ?_
  refine AW.eqS (S' := [.box b1 58 (insCells i), .box b3 94 (hasCells (hasF i.kind))]) rfl ?_
  refine AW.rseq ?_
  refine Y1 (Yv.assign rfl eV) ?_
  refine nl ?_
  refine AW.rowNil 3 1 ?_
  refine AW.mid (α := Option Addr × Nat) (fun q => [(1, true, .v (.pointer (some ⟨b1, 0, none⟩))), (3, true, .v (.pointer (some ⟨b3, 0, none⟩))), (5, true, .v (.slice q.1 (rd1 i).length q.2))]) (fun q => [.box b1 58 (insCells i), .box b3 94 (hasCells (hasF i.kind)), .row q.1 (rd1 i).length q.2 3 1 ((rd1 i).map zi)]) (fun _ => True) ?_ ?_
  ·
    refine AW.rseq ?_
    refine Y1 (Yv.fieldBox rfl fo_94_1 eV) ?_
    refine Y1 (Yv.loadBox rfl ag_4 (i := 1) rfl (E rfl rfl) rfl) ?_
    refine nl ?_
    refine AW.cond rfl (fun h0t => ?_) (fun h0f => ?_)
    ·
      try replace h0t := of_decide_eq_true h0t
      refine AW.region ?_
      refine Y1 (Yv.move rfl eV) ?_
      refine Y1 (Yv.fieldBox rfl fo_58_2 eV) ?_
      refine Y1 (Yv.loadBox rfl ag_3 (i := 0) rfl (E rfl rfl) rfl) ?_
      refine AWL.buildSlice1 rfl rfl (B rfl) rfl el_47 rfl (evsC (E rfl rfl) evs0) (Nat.le_of_ble_eq_true rfl) rfl rfl ?_
      refine AWL.appendRow (i := 2) rfl rfl (B rfl) rfl el_47 (B rfl) rfl (E rfl rfl) (SrcT.sl so_47 (B rfl) (E rfl rfl) rfl) (by unfold maxLen; omega) (by omega) (fun A18 c18 => ?_)
      refine Y1 (Yv.assign rfl eV) ?_
      refine nl ?_
      refine ⟨(A18, c18), trivial, (Sub.cons rfl rfl (Sub.cons rfl rfl (Sub.cons rfl (by rw [rd1_t h0t] <;> rfl) Sub.nil))), ?_⟩
      rw [rd1_t h0t] <;> rfl
    ·
      try replace h0f := of_decide_eq_false h0f
      refine AW.skip ?_
      refine ⟨(none, 0), trivial, (Sub.cons rfl rfl (Sub.cons rfl rfl (Sub.cons rfl (by rw [rd1_f h0f]; rfl) Sub.nil))), ?_⟩
      rw [rd1_f h0f]
      rfl
  ·
    rintro ⟨A1, c1⟩ _
    refine AW.mid (α := Option Addr × Nat) (fun q => [(1, true, .v (.pointer (some ⟨b1, 0, none⟩))), (3, true, .v (.pointer (some ⟨b3, 0, none⟩))), (5, true, .v (.slice q.1 (rd2 i).length q.2))]) (fun q => [.box b1 58 (insCells i), .box b3 94 (hasCells (hasF i.kind)), .row q.1 (rd2 i).length q.2 3 1 ((rd2 i).map zi)]) (fun _ => True) ?_ ?_
    ·
      refine AW.rseq ?_
      refine Y1 (Yv.fieldBox rfl fo_94_2 eV) ?_
      refine Y1 (Yv.loadBox rfl ag_4 (i := 1) rfl (E rfl rfl) rfl) ?_
      refine nl ?_
      refine AW.cond rfl (fun h1t => ?_) (fun h1f => ?_)
      ·
        try replace h1t := of_decide_eq_true h1t
        refine AW.region ?_
        refine Y1 (Yv.move rfl eV) ?_
        refine Y1 (Yv.fieldBox rfl fo_58_3 eV) ?_
        refine Y1 (Yv.loadBox rfl ag_3 (i := 0) rfl (E rfl rfl) rfl) ?_
        refine AWL.buildSlice1 rfl rfl (B rfl) rfl el_47 rfl (evsC (E rfl rfl) evs0) (Nat.le_of_ble_eq_true rfl) rfl rfl ?_
        refine AWL.appendRow (i := 2) rfl rfl (B rfl) rfl el_47 (B rfl) rfl (E rfl rfl) (SrcT.sl so_47 (B rfl) (E rfl rfl) rfl) (by unfold maxLen; omega) (by omega) (fun A25 c25 => ?_)
        refine Y1 (Yv.assign rfl eV) ?_
        refine nl ?_
        refine ⟨(A25, c25), trivial, (Sub.cons rfl rfl (Sub.cons rfl rfl (Sub.cons rfl (by rw [rd2_t h1t, List.length_append] <;> rfl) Sub.nil))), ?_⟩
        rw [rd2_t h1t, List.length_append, List.map_append] <;> rfl
      ·
        try replace h1f := of_decide_eq_false h1f
        refine AW.skip ?_
        refine ⟨(A1, c1), trivial, (Sub.cons rfl rfl (Sub.cons rfl rfl (Sub.cons rfl (by rw [rd2_f h1f]) Sub.nil))), ?_⟩
        rw [rd2_f h1f]
    ·
      rintro ⟨A2, c2⟩ _
      refine AW.mid (α := Option Addr × Nat) (fun q => [(1, true, .v (.pointer (some ⟨b1, 0, none⟩))), (3, true, .v (.pointer (some ⟨b3, 0, none⟩))), (5, true, .v (.slice q.1 (readsF i).length q.2))]) (fun q => [.box b1 58 (insCells i), .box b3 94 (hasCells (hasF i.kind)), .row q.1 (readsF i).length q.2 3 1 ((readsF i).map zi)]) (fun _ => True) ?_ ?_
      ·
        refine AW.rseq ?_
        refine Y1 (Yv.fieldBox rfl fo_94_3 eV) ?_
        refine Y1 (Yv.loadBox rfl ag_4 (i := 1) rfl (E rfl rfl) rfl) ?_
        refine nl ?_
        refine AW.cond rfl (fun h2t => ?_) (fun h2f => ?_)
        ·
          try replace h2t := of_decide_eq_true h2t
          refine AW.region ?_
          refine Y1 (Yv.move rfl eV) ?_
          refine Y1 (Yv.fieldBox rfl fo_58_10 eV) ?_
          refine Y1 (Yv.loadBox rfl ag_47 (i := 0) rfl (E rfl rfl) rfl) ?_
          refine AWL.appendRow (i := 2) rfl rfl (B rfl) rfl el_47 (B rfl) rfl (E rfl rfl) (SrcT.sl so_47 (B rfl) (E rfl rfl) len_args) (by unfold maxLen; omega) (by omega) (fun A31 c31 => ?_)
          refine Y1 (Yv.assign rfl eV) ?_
          refine nl ?_
          refine ⟨(A31, c31), trivial, (Sub.cons rfl rfl (Sub.cons rfl rfl (Sub.cons rfl (by rw [rd3_t h2t, List.length_append] <;> rfl) Sub.nil))), ?_⟩
          rw [rd3_t h2t, List.length_append, List.map_append] <;> rfl
        ·
          try replace h2f := of_decide_eq_false h2f
          refine AW.skip ?_
          refine ⟨(A2, c2), trivial, (Sub.cons rfl rfl (Sub.cons rfl rfl (Sub.cons rfl (by rw [rd3_f h2f]) Sub.nil))), ?_⟩
          rw [rd3_f h2f]
      ·
        rintro ⟨A3, c3⟩ _
        refine AW.freeze 2 5 rfl (B rfl) rfl ?_
        refine AW.rseq ?_
        refine Y1 (Yv.move rfl eV) ?_
        refine Y1 (Yv.assign rfl eV) ?_
        refine nl ?_
        refine AW.ret (retI (.tmp rfl .nil) ?_)
        rfl

set_option maxHeartbeats 4000000 in
theorem next41_ (f : Fn) (wh : LM) (m : Nat) (k : Nat) (hk : k < f.code.length) (hf : f.code.length ≤ 1048576) :
    ACalls Try.prog 41 [.agg (fnCells f), .v (.map (some m)), .v (.int .i64 (k : Int))] [.map m (lmT wh)] (fun t S => t = .sl 1 ((nextF wh (f.code.getD k default) k).map zi) ∧ .map m (lmT wh) ∈ S) := by
  have hn1 := nx1_len wh (f.code.getD k default)
  refine ACalls.intro Try.func41 rfl Try.ntmps41 (Nat.le_of_ble_eq_true rfl) rfl fun X w0 => ?_
  refine AW.rseq ?_
  refine AWL.boxOp rfl rfl (B rfl) rfl (E rfl rfl) rfl (fun b3 => ?_)
  refine Y1 (Yv.assign rfl eV) ?_
  refine nl ?_
  refine AW.rseq ?_
  refine Y1 (Yv.fieldBox rfl fo_51_4 eV) ?_
  refine Y1 (Yv.loadBox rfl ag_49 (i := 1) rfl (E rfl rfl) rfl) ?_
  refine Y1 (Yv.move rfl eV) ?_
  refine Y1 (Yv.indexSl rfl ss_49 (B rfl) (E rfl rfl) (E rfl rfl) (fun hg => ⟨rfl, (by first | omega | (simp only [len_code, len_funs, len_args, len_data]; omega))⟩)) ?_
  refine Y1 (Yv.loadRpA rfl ag_58 (E rfl rfl) (fun hg => ins_cells (by omega))) ?_
  refine AWL.allocOp rfl rfl (B rfl) rfl zc_58 (fun b7 => ?_)
  refine AWL.storeBox (i := 2) rfl rfl rfl ag_58 rfl (E rfl rfl) (E rfl rfl) rfl rfl (Nat.le_of_ble_eq_true rfl) ?_
  refine nl ?_
  refine AW.eqS (S' := [.map m (lmT wh), .box b3 51 (fnCells f), .box b7 58 (insCells (f.code.getD k default))]) rfl ?_
  refine AW.rseq ?_
  refine Y1 (Yv.assign rfl eV) ?_
  refine nl ?_
  refine AW.rowNil 3 1 ?_
  refine AW.mid (α := Option Addr × Nat) (fun q => [(1, true, .v (.map (some m))), (2, true, .v (.int .i64 (k : Int))), (3, true, .v (.pointer (some ⟨b3, 0, none⟩))), (7, true, .v (.pointer (some ⟨b7, 0, none⟩))), (8, true, .v (.slice q.1 (nx1 wh (f.code.getD k default)).length q.2))]) (fun q => [.map m (lmT wh), .box b3 51 (fnCells f), .box b7 58 (insCells (f.code.getD k default)), .row q.1 (nx1 wh (f.code.getD k default)).length q.2 3 1 ((nx1 wh (f.code.getD k default)).map zi)]) (fun _ => True) ?_ ?_
  ·
    refine AW.rseq ?_
    refine Y1 (Yv.fieldBox rfl fo_58_0 eV) ?_
    refine Y1 (Yv.loadBox rfl ag_3 (i := 2) rfl (E rfl rfl) rfl) ?_
    refine Y1 (Yv.eql rfl eV eV) ?_
    refine Y1 (Yv.move rfl eV) ?_
    refine AWL.ygF rfl rfl rfl rfl (B rfl) (Yv.fieldBox rfl fo_58_0 (E rfl rfl)) ?_
    refine AWL.ygF rfl rfl rfl rfl (B rfl) (Yv.loadBox rfl ag_3 (i := 2) rfl (Eg rfl rfl id) rfl) ?_
    refine AWL.ygF rfl rfl rfl rfl (B rfl) (Yv.eql rfl (Eg rfl rfl id) (E rfl rfl)) ?_
    refine Y1 (Yv.pickOr (t := .const (.bool true)) rfl (E rfl rfl) (Eg rfl rfl id)) ?_
    refine nl ?_
    refine AW.cond rfl (fun h0t => ?_) (fun h0f => ?_)
    ·
      try replace h0t := of_decide_eq_true h0t
      simp only [ne_eq, Bool.or_eq_true, Bool.and_eq_true, Bool.not_eq_true', decide_eq_true_eq, decide_eq_false_iff_not] at h0t
      refine AW.region ?_
      refine Y1 (Yv.move rfl eV) ?_
      refine Y1 (Yv.move rfl eV) ?_
      refine Y1 (Yv.fieldBox rfl fo_58_4 eV) ?_
      refine Y1 (Yv.loadBox rfl ag_3 (i := 2) rfl (E rfl rfl) rfl) ?_
      refine Y1 (Yv.eqT (Yv.lookup1 (k := .i _ _) (i := 0) rfl mp_53 rfl (E rfl rfl) (E rfl rfl) rfl (lm_good _ _ rfl)) (get_lm _ _)) ?_
      refine AWL.buildSlice1 rfl rfl (B rfl) rfl el_47 rfl (evsC (E rfl rfl) evs0) (Nat.le_of_ble_eq_true rfl) rfl rfl ?_
      refine AWL.appendRow (i := 3) rfl rfl (B rfl) rfl el_47 (B rfl) rfl (E rfl rfl) (SrcT.sl so_47 (B rfl) (E rfl rfl) rfl) (by unfold maxLen; omega) (by omega) (fun A29 c29 => ?_)
      refine Y1 (Yv.assign rfl eV) ?_
      refine nl ?_
      refine ⟨(A29, c29), trivial, (Sub.cons rfl rfl (Sub.cons rfl rfl (Sub.cons rfl rfl (Sub.cons rfl rfl (Sub.cons rfl (by rw [nx1_t h0t] <;> rfl) Sub.nil))))), ?_⟩
      rw [nx1_t h0t] <;> rfl
    ·
      try replace h0f := of_decide_eq_false h0f
      replace h0f : ¬ (_ = true) := fun q => Bool.false_ne_true (h0f.symm.trans q)
      simp only [ne_eq, Bool.or_eq_true, Bool.and_eq_true, Bool.not_eq_true', decide_eq_true_eq, decide_eq_false_iff_not] at h0f
      refine AW.skip ?_
      refine ⟨(none, 0), trivial, (Sub.cons rfl rfl (Sub.cons rfl rfl (Sub.cons rfl rfl (Sub.cons rfl rfl (Sub.cons rfl (by rw [nx1_f h0f]; rfl) Sub.nil))))), ?_⟩
      rw [nx1_f h0f]
      rfl
  ·
    rintro ⟨A1, c1⟩ _
    refine AW.rseq ?_
    refine Y1 (Yv.fieldBox rfl fo_58_0 eV) ?_
    refine Y1 (Yv.loadBox rfl ag_3 (i := 2) rfl (E rfl rfl) rfl) ?_
    refine AWL.callP rfl rfl (B rfl) rfl ce_21 (E rfl rfl) (evsC (E rfl rfl) evs0) (Ends21 (f.code.getD k default).kind) (fun t S h => h) ?_
    refine Y1 (Yv.assign rfl eV) ?_
    refine nl ?_
    refine AW.mid (α := Option Addr × Nat) (fun q => [(1, true, .v (.map (some m))), (2, true, .v (.int .i64 (k : Int))), (3, true, .v (.pointer (some ⟨b3, 0, none⟩))), (7, true, .v (.pointer (some ⟨b7, 0, none⟩))), (8, true, .v (.slice q.1 (nextF wh (f.code.getD k default) k).length q.2))]) (fun q => [.map m (lmT wh), .box b3 51 (fnCells f), .box b7 58 (insCells (f.code.getD k default)), .row q.1 (nextF wh (f.code.getD k default) k).length q.2 3 1 ((nextF wh (f.code.getD k default) k).map zi)]) (fun _ => True) ?_ ?_
    ·
      refine AW.rseq ?_
      refine Y1 (Yv.move rfl eV) ?_
      refine Y1 (Yv.not rfl eV) ?_
      refine nl ?_
      refine AW.cond rfl (fun h1t => ?_) (fun h1f => ?_)
      ·
        try replace h1t := of_decide_eq_true h1t
        refine AW.region ?_
        refine Y1 (Yv.move rfl eV) ?_
        refine Y1 (Yv.move rfl eV) ?_
        refine Y1 (Yv.addN_i64 rfl (E rfl rfl) (E rfl rfl) (fun hg => by omega)) ?_
        refine AWL.buildSlice1 rfl rfl (B rfl) rfl el_47 rfl (evsC (E rfl rfl) evs0) (Nat.le_of_ble_eq_true rfl) rfl rfl ?_
        refine AWL.appendRow (i := 3) rfl rfl (B rfl) rfl el_47 (B rfl) rfl (E rfl rfl) (SrcT.sl so_47 (B rfl) (E rfl rfl) rfl) (by unfold maxLen; omega) (by omega) (fun A39 c39 => ?_)
        refine Y1 (Yv.assign rfl eV) ?_
        refine nl ?_
        refine ⟨(A39, c39), trivial, (Sub.cons rfl rfl (Sub.cons rfl rfl (Sub.cons rfl rfl (Sub.cons rfl rfl (Sub.cons rfl (by rw [nx_f (by simpa using h1t), List.length_append] <;> rfl) Sub.nil))))), ?_⟩
        rw [nx_f (by simpa using h1t), List.length_append, List.map_append] <;> rfl
      ·
        try replace h1f := of_decide_eq_false h1f
        refine AW.skip ?_
        refine ⟨(A1, c1), trivial, (Sub.cons rfl rfl (Sub.cons rfl rfl (Sub.cons rfl rfl (Sub.cons rfl rfl (Sub.cons rfl (by rw [nx_t (by simpa using h1f)]) Sub.nil))))), ?_⟩
        rw [nx_t (by simpa using h1f)]
    ·
      rintro ⟨A2, c2⟩ _
      refine AW.freeze 3 8 rfl (B rfl) rfl ?_
      refine AW.rseq ?_
      refine Y1 (Yv.move rfl eV) ?_
      refine Y1 (Yv.assign rfl eV) ?_
      refine nl ?_
      refine AW.ret (retI (.tmp rfl .nil) ?_)
      exact ⟨rfl, by simp⟩

theorem next41 (f : Fn) (wh : LM) (m : Nat) (k : Nat) (hk : k < f.code.length) (hf : f.code.length ≤ 1048576) : ACalls Try.prog 41 [.agg (fnCells f), .v (.map (some m)), .v (.int .i64 (k : Int))] [.map m (lmT wh)] (fun t S => t = .sl 1 ((nextF wh (f.code.getD k default) k).map zi) ∧ S = [.map m (lmT wh)]) := ACalls.keep1 (next41_ f wh m k hk hf)
set_option maxHeartbeats 4000000 in
theorem behind40_ (p : Prog) (f : Fn) (many : LM) (i : Ins) (A : Option Addr) (n c : Nat) (s : List Bool) (R : Nat) (hR : f.regs = (R : Int)) (hf : FnOk p f) (hi : InsOk p f many i) (hn : (n : Int) = f.regs + f.slots) (hs : s.length = n) :
    ACalls Try.prog 40 [.agg (fnCells f), .agg (insCells i), .v (.slice A n c)] [.row A n c 4 1 (s.map bv)] (fun t S => t = .sl 1 ((behindF R i s).map bv) ∧ .row A n c 4 1 (s.map bv) ∈ S) := by
  have hf1 := hf.regs
  have hf2 := hf.slot0
  have hf3 := hf.slot1
  have hRs : R ≤ s.length := by omega
  have hb1 := bh1_len (i := i) hRs
  have hb2 := bh2_len (i := i) hRs
  refine ACalls.intro Try.func40 rfl Try.ntmps40 (Nat.le_of_ble_eq_true rfl) rfl fun X w0 => ?_
  refine AW.rseq ?_
  refine AWL.boxOp rfl rfl (B rfl) rfl (E rfl rfl) rfl (fun b3 => ?_)
  refine AWL.boxOp rfl rfl (B rfl) rfl (E rfl rfl) rfl (fun b4 => ?_)
  refine Y1 (Yv.assign rfl eV) ?_
  refine nl ?_
  refine AW.rseq ?_
  refine Y1 (Yv.assign rfl eV) ?_
  refine nl ?_
  refine AW.rowNil 4 1 ?_
  refine AW.rseq ?_
  refine Y1 (Yv.move rfl eV) ?_
  refine Y1 (Yv.move rfl eV) ?_
  refine AWL.appendRow (i := 3) rfl rfl (B rfl) rfl el_85 (B rfl) rfl (E rfl rfl) (SrcT.row so_85 (i := 0) rfl (E rfl rfl)) (by unfold maxLen; omega) (by omega) (fun A13 c13 => ?_)
  rw [Nat.zero_add]
  refine Y1 (Yv.assign rfl eV) ?_
  refine nl ?_
  refine AW.mid (α := Unit) (fun _ => [(3, true, .v (.pointer (some ⟨b3, 0, none⟩))), (4, true, .v (.pointer (some ⟨b4, 0, none⟩))), (7, true, .v (.slice A13 n c13))]) (fun _ => [.row A n c 4 1 (s.map bv), .box b3 51 (fnCells f), .box b4 58 (insCells i), .row A13 n c13 4 1 ((bh1 R i s).map bv)]) (fun _ => True) ?_ ?_
  ·
    refine AW.rseq ?_
    refine Y1 (Yv.fieldBox rfl fo_58_0 eV) ?_
    refine Y1 (Yv.loadBox rfl ag_3 (i := 2) rfl (E rfl rfl) rfl) ?_
    refine Y1 (Yv.eql rfl eV eV) ?_
    refine Y1 (Yv.move rfl eV) ?_
    refine AWL.ygF rfl rfl rfl rfl (B rfl) (Yv.fieldBox rfl fo_58_0 (E rfl rfl)) ?_
    refine AWL.ygF rfl rfl rfl rfl (B rfl) (Yv.loadBox rfl ag_3 (i := 2) rfl (Eg rfl rfl id) rfl) ?_
    refine AWL.ygF rfl rfl rfl rfl (B rfl) (Yv.eql rfl (Eg rfl rfl id) (E rfl rfl)) ?_
    refine Y1 (Yv.pickOr (t := .const (.bool true)) rfl (E rfl rfl) (Eg rfl rfl id)) ?_
    refine nl ?_
    refine AW.cond rfl (fun h0t => ?_) (fun h0f => ?_)
    ·
      try replace h0t := of_decide_eq_true h0t
      simp only [ne_eq, Bool.or_eq_true, Bool.and_eq_true, Bool.not_eq_true', decide_eq_true_eq, decide_eq_false_iff_not] at h0t
      refine AW.rseq ?_
      refine Y1 (Yv.assign rfl eV) ?_
      refine nl ?_
      refine AW.block ?_
      refine AW.loop (fun (j : Nat) => [(3, true, .v (.pointer (some ⟨b3, 0, none⟩))), (4, true, .v (.pointer (some ⟨b4, 0, none⟩))), (7, true, .v (.slice A13 n c13)), (8, true, .v (.int .i64 (j : Int)))]) (fun (j : Nat) => [.row A n c 4 1 (s.map bv), .box b3 51 (fnCells f), .box b4 58 (insCells i), .row A13 n c13 4 1 ((List.replicate j false ++ s.drop j).map bv)]) (fun (j : Nat) => j ≤ R) (fun (j : Nat) => R - j) 0 ?_ ?_ ?_ ?_
      · exact Nat.zero_le _
      · exact (Sub.cons rfl rfl (Sub.cons rfl rfl (Sub.cons rfl rfl (Sub.cons rfl rfl Sub.nil))))
      · rfl
      ·
        intro j hinv
        refine AW.seq ?_
        refine AW.rseq ?_
        refine Y1 (Yv.move rfl eV) ?_
        refine Y1 (Yv.fieldBox rfl fo_51_2 eV) ?_
        refine Y1 (Yv.loadBox rfl ag_3 (i := 1) rfl (E rfl rfl) rfl) ?_
        refine Y1 (Yv.lss rfl eV eV) ?_
        refine nl ?_
        refine AW.cond rfl (fun h1t => ?_) (fun h1f => ?_)
        ·
          try replace h1t := of_decide_eq_true h1t
          have hjR : j < R := by omega
          refine AW.skip ?_
          refine AW.seq ?_
          refine AW.block ?_
          refine AW.region ?_
          refine Y1 (Yv.move rfl eV) ?_
          refine Y1 (Yv.move rfl eV) ?_
          refine Y1 (Yv.indexRow rfl ss_85 (i := 3) rfl (E rfl rfl) (E rfl rfl) (fun hg => ⟨rfl, by omega⟩)) ?_
          refine AWL.storeEp1 (i := 3) rfl rfl rfl ag_4 rfl (E rfl rfl) (E rfl rfl) rfl rfl (by simp; omega) ?_
          refine nl ?_
          refine AW.region ?_
          refine Y1 (Yv.move rfl eV) ?_
          refine Y1 (Yv.addN_i64 rfl (E rfl rfl) (E rfl rfl) (fun hg => by omega)) ?_
          refine Y1 (Yv.assign rfl eV) ?_
          refine nl ?_
          refine ⟨j + 1, by omega, by omega, (Sub.cons rfl rfl (Sub.cons rfl rfl (Sub.cons rfl rfl (Sub.cons rfl (by simp) Sub.nil)))), ?_⟩
          rw [← rep_set hjR hRs, ← map_set, Nat.mul_one]
          rfl
        ·
          try replace h1f := of_decide_eq_false h1f
          refine AW.exit ?_
          refine ⟨(), trivial, (Sub.cons rfl rfl (Sub.cons rfl rfl (Sub.cons rfl rfl Sub.nil))), ?_⟩
          obtain rfl : j = R := by omega
          rw [bh1, if_pos h0t] <;> rfl
    ·
      try replace h0f := of_decide_eq_false h0f
      replace h0f : ¬ (_ = true) := fun q => Bool.false_ne_true (h0f.symm.trans q)
      simp only [ne_eq, Bool.or_eq_true, Bool.and_eq_true, Bool.not_eq_true', decide_eq_true_eq, decide_eq_false_iff_not] at h0f
      refine AW.skip ?_
      refine ⟨(), trivial, (Sub.cons rfl rfl (Sub.cons rfl rfl (Sub.cons rfl rfl Sub.nil))), ?_⟩
      rw [bh1, if_neg h0f] <;> rfl
  ·
    rintro _ hmid
    refine AW.rseq ?_
    refine Y1 (Yv.fieldBox rfl fo_58_0 eV) ?_
    refine Y1 (Yv.loadBox rfl ag_3 (i := 2) rfl (E rfl rfl) rfl) ?_
    refine AWL.callT rfl rfl (B rfl) rfl ce_36 (E rfl rfl) (evsC (E rfl rfl) evs0) (Of36 i.kind) ?_
    rintro t34 S34 rfl
    refine Y1 (Yv.move rfl eV) ?_
    refine Y1 (Yv.extract rfl eV rfl) ?_
    refine Y1 (Yv.extract rfl eV rfl) ?_
    refine AWL.allocOp rfl rfl (B rfl) rfl zc_94 (fun b9 => ?_)
    refine AWL.storeBox (i := 4) rfl rfl rfl ag_94 rfl (E rfl rfl) (E rfl rfl) rfl rfl (Nat.le_of_ble_eq_true rfl) ?_
    refine Y1 (Yv.assign rfl eV) ?_
    refine nl ?_
    refine AW.mid (α := Unit) (fun _ => [(3, true, .v (.pointer (some ⟨b3, 0, none⟩))), (4, true, .v (.pointer (some ⟨b4, 0, none⟩))), (7, true, .v (.slice A13 n c13))]) (fun _ => [.row A n c 4 1 (s.map bv), .box b3 51 (fnCells f), .box b4 58 (insCells i), .row A13 n c13 4 1 ((bh2 R i s).map bv), .box b9 94 (hasCells (hasF i.kind))]) (fun _ => True) ?_ ?_
    ·
      refine AW.rseq ?_
      refine Y1 (Yv.fieldBox rfl fo_94_0 eV) ?_
      refine Y1 (Yv.loadBox rfl ag_4 (i := 4) rfl (E rfl rfl) rfl) ?_
      refine nl ?_
      refine AW.cond rfl (fun h2t => ?_) (fun h2f => ?_)
      ·
        try replace h2t := of_decide_eq_true h2t
        have hd := hi.d h2t
        refine AW.region ?_
        refine Y1 (Yv.move rfl eV) ?_
        refine Y1 (Yv.fieldBox rfl fo_58_1 eV) ?_
        refine Y1 (Yv.loadBox rfl ag_3 (i := 2) rfl (E rfl rfl) rfl) ?_
        refine Y1 (Yv.indexRow (j := i.d.toNat) rfl ss_85 (i := 3) rfl (E rfl rfl) (E rfl rfl) (fun hg => ⟨(Int.toNat_of_nonneg hd.1).symm, by omega⟩)) ?_
        refine AWL.storeEp1 (i := 3) rfl rfl rfl ag_4 rfl (E rfl rfl) (E rfl rfl) rfl rfl (by simp; omega) ?_
        refine nl ?_
        refine ⟨(), trivial, (Sub.cons rfl rfl (Sub.cons rfl rfl (Sub.cons rfl rfl Sub.nil))), ?_⟩
        rw [bh2, if_pos h2t, ← map_set, Nat.mul_one] <;> rfl
      ·
        try replace h2f := of_decide_eq_false h2f
        refine AW.skip ?_
        refine ⟨(), trivial, (Sub.cons rfl rfl (Sub.cons rfl rfl (Sub.cons rfl rfl Sub.nil))), ?_⟩
        rw [bh2, if_neg (by rw [show (hasF i.kind).d = false from h2f]; decide)] <;> rfl
    ·
      rintro _ hmid
      refine AW.mid (α := Unit) (fun _ => [(3, true, .v (.pointer (some ⟨b3, 0, none⟩))), (4, true, .v (.pointer (some ⟨b4, 0, none⟩))), (7, true, .v (.slice A13 n c13))]) (fun _ => [.row A n c 4 1 (s.map bv), .box b3 51 (fnCells f), .box b4 58 (insCells i), .row A13 n c13 4 1 ((behindF R i s).map bv), .box b9 94 (hasCells (hasF i.kind))]) (fun _ => True) ?_ ?_
      ·
        refine AW.rseq ?_
        refine Y1 (Yv.fieldBox rfl fo_58_0 eV) ?_
        refine Y1 (Yv.loadBox rfl ag_3 (i := 2) rfl (E rfl rfl) rfl) ?_
        refine Y1 (Yv.eql rfl eV eV) ?_
        refine nl ?_
        refine AW.cond rfl (fun h3t => ?_) (fun h3f => ?_)
        ·
          try replace h3t := of_decide_eq_true h3t
          have hsl := hi.slot (.inr h3t)
          refine AW.region ?_
          refine Y1 (Yv.move rfl eV) ?_
          refine Y1 (Yv.fieldBox rfl fo_51_2 eV) ?_
          refine Y1 (Yv.loadBox rfl ag_3 (i := 1) rfl (E rfl rfl) rfl) ?_
          refine Y1 (Yv.fieldBox rfl fo_58_9 eV) ?_
          refine Y1 (Yv.loadBox rfl ag_2 (i := 2) rfl (E rfl rfl) rfl) ?_
          refine Y1 (Yv.addN_i64 rfl (E rfl rfl) (E rfl rfl) (fun hg => by omega)) ?_
          refine Y1 (Yv.indexRow (j := (R + i.imm.toNat)) rfl ss_85 (i := 3) rfl (E rfl rfl) (E rfl rfl) (fun hg => ⟨by omega, by omega⟩)) ?_
          refine AWL.storeEp1 (i := 3) rfl rfl rfl ag_4 rfl (E rfl rfl) (E rfl rfl) rfl rfl (by simp; omega) ?_
          refine nl ?_
          refine ⟨(), trivial, (Sub.cons rfl rfl (Sub.cons rfl rfl (Sub.cons rfl rfl Sub.nil))), ?_⟩
          rw [behindF, if_pos h3t, ← map_set, Nat.mul_one] <;> rfl
        ·
          try replace h3f := of_decide_eq_false h3f
          refine AW.skip ?_
          refine ⟨(), trivial, (Sub.cons rfl rfl (Sub.cons rfl rfl (Sub.cons rfl rfl Sub.nil))), ?_⟩
          rw [behindF, if_neg h3f] <;> rfl
      ·
        rintro _ hmid
        refine AW.freeze 3 7 rfl (B rfl) rfl ?_
        refine AW.rseq ?_
        refine Y1 (Yv.move rfl eV) ?_
        refine Y1 (Yv.assign rfl eV) ?_
        refine nl ?_
        refine AW.ret (retI (.tmp rfl .nil) ?_)
        exact ⟨rfl, by simp⟩

theorem behind40 (p : Prog) (f : Fn) (many : LM) (i : Ins) (A : Option Addr) (n c : Nat) (s : List Bool) (R : Nat) (hR : f.regs = (R : Int)) (hf : FnOk p f) (hi : InsOk p f many i) (hn : (n : Int) = f.regs + f.slots) (hs : s.length = n) : ACalls Try.prog 40 [.agg (fnCells f), .agg (insCells i), .v (.slice A n c)] [.row A n c 4 1 (s.map bv)] (fun t S => t = .sl 1 ((behindF R i s).map bv) ∧ S = [.row A n c 4 1 (s.map bv)]) := ACalls.keep1 (behind40_ p f many i A n c s R hR hf hi hn hs)
end Go.Proofs.Ytlfklgganokgdaa

namespace Go.Proofs.Ytlfklgganokgdaa
open Go Go.RowKit
set_option linter.unusedVariables false
set_option linter.unusedSimpArgs false
section
variable {cx : Cx} {env : Env} {S : St} {o : Oper} {g : Bool} {x y z : Operand} {ops : Array Oper} {l : List Oper} {K : Env → St → Prop} {Q : Exit → Env → St → Prop} {d : Nat}
theorem run_append_rowS {P : Program} {w : World} {t tx ty e : TypeId} {k b n c m : Nat} {zs us news : List Value} {A : Option Addr} {v : Value} (he : elemOf P t = some (e, k, b, zs)) (hk : 0 < k) (hrow : RowIs w e k A n c us) (hs : Src P k tx v m news w) (h63 : n + m ≤ maxLen) (hb : (n + m) * b ≤ 140737488355328) :
    ∃ A' c' w', (Builtin.append_ #[t, tx] ty #[.slice A n c, v]).run P w = .ok (.slice A' (n + m) c') w' ∧ RowIs w' e k A' (n + m) c' (us ++ news) ∧ (∀ g, A'.map (·.block) = some g → A.map (·.block) = some g ∨ g = w.heap.size) ∧
      (∀ g, g < w.heap.size → A.map (·.block) ≠ some g → w'.heap[g]? = w.heap[g]?) ∧ w.heap.size ≤ w'.heap.size ∧ w'.os = w.os ∧ w'.tape = w.tape ∧ w'.output = w.output ∧ (A.isSome = true → A'.isSome = true) := by
  obtain ⟨h1, i, z, h2, h3, rfl, rfl, h6, h7, h8⟩ := elemOf_spec he
  obtain ⟨r1, r2, r3, r4⟩ := hrow
  by_cases hroom : n + m ≤ c
  · rcases r4 with ⟨rfl, rfl, rfl⟩ | ⟨gb, cur, fr, rfl, hh, hfr, hsz, htk⟩
    · obtain rfl : m = 0 := by omega
      obtain rfl : us = [] := List.eq_nil_of_length_eq_zero (by simpa using r1)
      obtain rfl : news = [] := List.eq_nil_of_length_eq_zero (by simpa using hs.newsLen)
      exact ⟨none, 0, w, run_append_nil0 w t tx ty e i h1 h2 v [] hs, ⟨by simp, by unfold maxLen; omega, Nat.le_refl _, .inl ⟨rfl, rfl, rfl⟩⟩, (fun g hg => by cases hg), fun _ _ _ => rfl, Nat.le_refl _, rfl, rfl, rfl, fun h => h⟩
    · have hfit : n * i.size + news.length ≤ cur.size := by
        rw [hs.newsLen, hsz, ← Nat.add_mul]
        exact Nat.mul_le_mul_right _ hroom
      have hcell : ∀ j, j < news.length → (w.cell? ⟨gb, 0 + n * i.size + j, none⟩).isSome = true := fun j hj => by
        rw [cell_of_row w gb _ cur e fr hh, Array.getElem?_eq_getElem (by omega)]
        rfl
      have hfro : ∀ j, j < news.length → w.frozen? ⟨gb, 0 + n * i.size + j, none⟩ = false := fun j hj => by
        obtain ⟨lo, hi'⟩ := fr
        simp only [World.frozen?, hh]
        simp only at hfr
        rcases hfr with h | h <;> (simp; intro h'; omega)
      have hrun := run_append_room_src (P := P) w t tx ty e i h1 h2 gb 0 n c v m news hs hroom hcell hfro
      obtain ⟨cur', c1, c2⟩ := setCells_heap gb news (0 + n * i.size) w cur hh (by omega)
      obtain ⟨s1, s2, s3, s4, s5⟩ := setCells_rest gb news (0 + n * i.size) w
      refine ⟨_, _, _, hrun, ⟨by simp [r1, hs.newsLen, Nat.add_mul], r2, hroom, .inr ⟨gb, cur', fr, rfl, c1, ?_, ?_, ?_⟩⟩, fun g hg => .inl hg, fun g _ hne => s5 g (fun e => hne (by subst e; rfl)), Nat.le_of_eq s1.symm, s2, s3, s4, fun _ => rfl⟩
      · have : cur'.size = cur.size := by
          have := congrArg List.length c2
          simp at this
          omega
        rw [this]; exact hfr
      · have := congrArg List.length c2
        simp at this
        omega
      · rw [c2, Nat.zero_add, htk]
        have : us.length + news.length = (n + m) * i.size := by rw [r1, hs.newsLen, Nat.add_mul]
        rw [← this]
        rw [← List.length_append, List.take_left]
  · have hn' : c < n + m := by omega
    have hold : (Builtin.firstCells i.size n (.slice A n c)).run P w.drew = .ok us.toArray w.drew := by
      rcases r4 with ⟨rfl, rfl, rfl⟩ | ⟨gb, cur, fr, rfl, hh, hfr, hsz, htk⟩
      · obtain rfl : us = [] := List.eq_nil_of_length_eq_zero (by simpa using r1)
        exact run_firstCells_none w.drew _ _ _ _
      · refine run_firstCells_some w.drew _ _ _ _ _ us r1 (fun j u hu => ?_)
        rw [add_lit', Nat.zero_add]
        exact RowIs.cell (w := w) (e := e) (size := i.size) (n := n) (c := c) ⟨r1, r2, r3, .inr ⟨gb, cur, fr, rfl, hh, hfr, hsz, htk⟩⟩ hu
    have hfit := growslice_fits hn' hb
    unfold maxLen at h63
    have hrun := run_append_grow_src (P := P) w t tx ty e i z h1 h2 h3 A n c us hold v m news hs hn' (by omega) hfit
    have hcap1 := grownCap_ge w (n + m) c e
    have hcap2 := grownCap_le_maxLen w (n + m) c e (by unfold maxLen; omega)
    have hlen : us.length + news.length = (n + m) * i.size := by rw [r1, hs.newsLen, Nat.add_mul]
    refine ⟨_, _, _, hrun, ⟨by simp [hlen], hcap2, hcap1, .inr ⟨w.heap.size, _, (0, 0), rfl, heap_alloc_new w.drew _, .inl rfl, ?_, ?_⟩⟩, fun g hg => .inr (by simpa using hg.symm), fun g hg _ => Below.heap_alloc w.drew _ g hg, by simp, rfl, rfl, rfl, fun _ => rfl⟩
    · have hz : z.cells.size = i.size := by rw [h6]; simpa using h7
      simp only [Array.size_append, List.size_toArray, List.length_append, hlen, size_zeroCells, hz]
      rw [← Nat.add_mul]
      congr 1
      omega
    · simp only [Array.toList_append]
      have e1 : (us ++ news).length = (n + m) * i.size := by simp [hlen]
      rw [← e1, List.take_left]

theorem AWL.appendRowS {t tx e : TypeId} {k b n c m i : Nat} {zs : List Value} {A : Option Addr} {cs news : List T} (hg : o.guard = none) (hd : o.dst = some d) (hN : d < cx.N)
    (ho : o.op = .call { callee := .builtin .append, args := #[x, y], argTypes := #[t, tx] }) (he : elemOf cx.P t = some (e, k, b, zs)) (hk : 0 < k) (hi : S[i]? = some (.row A n c e k cs)) (hx : Ev env true x (.v (.slice A n c))) (hy : SrcT cx env S y tx k m news)
    (h63 : n + m ≤ maxLen) (hb : (n + m) * b ≤ 140737488355328)
    (hA : A.isSome = true) (hr : ∀ A' c', A'.isSome = true → AWL cx ops l K ((d, true, .v (.slice A' (n + m) c')) :: env) (S.set i (.row A' (n + m) c' e k (cs ++ news)))) : AWL cx ops (o :: l) K env S := by
  refine AWL.eff hg hd hN fun a w hs => ?_
  obtain ⟨us, hrow, hV⟩ := hs.row hi
  obtain ⟨ns, hVn, hsrc⟩ := hy a w hs
  obtain ⟨A', c', w', hrun, hrow', hblk, hkeep, hsz, hos, htp, hou, hSo⟩ := run_append_rowS (ty := o.type) he hk hrow hsrc h63 hb
  refine ⟨_, w', _, _, ?_, ?_, .v _, hr A' c' (hSo hA)⟩
  · simp only [execOp, ho, resolve, invoke, builtin, Sem.run_bind, Sem.run_pure, Result.andThen_ok, List.map_toArray, List.map_cons, List.map_nil, hx.val hs rfl, hrun]
  · refine hs.swap hi hblk hkeep hsz hos htp hou (fun L hL => ⟨us ++ ns, hrow', ?_⟩)
    have hb' : ∀ b, b < w.heap.size → b ∉ cx.X ++ M S → w'.heap[b]? = w.heap[b]? := fun b hlt hm => hkeep b hlt (fun h => hm (List.mem_append.2 (.inr (mem_M.2 ⟨_, List.mem_of_getElem? hi, h⟩))))
    exact (hV.append hVn).mono hsz hb' hL

theorem AWL.makeRowS {t e : TypeId} {n c k b : Nat} {zs : List Value} {kl kc : IntKind} (hg : o.guard = none) (hd : o.dst = some d) (hN : d < cx.N) (ho : o.op = .makeSlice t x y) (he : elemOf cx.P t = some (e, k, b, zs))
    (hx : Ev env true x (.v (.int kl (n : Int)))) (hy : Ev env true y (.v (.int kc (c : Int)))) (hnc : n ≤ c) (hb : b * c ≤ 281474976710656) (hc : c ≤ maxLen)
    (hr : ∀ A, A.isSome = true → AWL cx ops l K ((d, true, .v (.slice A n c)) :: env) (S ++ [.row A n c e k (List.replicate n (zs.map T.v)).flatten])) : AWL cx ops (o :: l) K env S := by
  refine AWL.eff hg hd hN fun a w hs => ?_
  obtain ⟨h1, i, z, h2, h3, h4, h5, h6, h7, h8⟩ := elemOf_spec he
  have hka := keeps_alloc w (.cells ((List.replicate c zs).flatten).toArray e)
  refine ⟨_, _, _, _, run_mk ho he (hx.val hs rfl) (hy.val hs rfl) hnc hb hc w, ?_, .v _, hr _ rfl⟩
  refine hs.add rfl hka ⟨(List.replicate n zs).flatten, ⟨flat_len n k zs h7, hc, hnc, .inr ⟨w.heap.size, _, (0, 0), rfl, heap_alloc_new w _, .inl rfl, by simpa using flat_len c k zs h7, flat_take n c k zs h7 hnc⟩⟩, hs.repsAdd rfl hka (vreps_flat n zs h8)⟩

theorem AWL.buildSliceRowS {t e : TypeId} {n k b : Nat} {zs : List Value} {parts : Array (Nat × Operand)} {ts : List T} (hg : o.guard = none) (hd : o.dst = some d) (hN : d < cx.N) (ho : o.op = .buildSlice t n parts)
    (he : elemOf cx.P t = some (e, k, b, zs)) (hk : 0 < k) (hi : idxOk 0 parts.toList = true) (hp : Evs env true (parts.toList.map (·.2)) ts) (hn : n * k ≤ 16777216) (hl : ts.length = n) (hall : (ts.all fun t => t.cellish && ((cellsT t).length == k)) = true)
    (hr : ∀ A, A.isSome = true → AWL cx ops l K ((d, true, .v (.slice A n n)) :: env) (S ++ [.row A n n e k (ts.flatMap cellsT)])) : AWL cx ops (o :: l) K env S := by
  refine AWL.eff hg hd hN fun a w hs => ?_
  obtain ⟨h1, i, z, h2, h3, h4, h5, h6, h7, h8⟩ := elemOf_spec he
  have hall' : ∀ t ∈ ts, t.cellish = true ∧ (cellsT t).length = k := fun t ht => by
    have := List.all_eq_true.1 hall t ht
    simpa using this
  have hfl : ((List.replicate n (zs.map T.v)).flatten).length = n * k := flat_len n k _ (by simpa using h7)
  have hf := fill_enum ts 0 ((List.replicate n (zs.map T.v)).flatten) hall' (by rw [hfl, hl, Nat.zero_add]; exact Nat.le_refl _)
  rw [Nat.zero_add, hl, Nat.zero_mul, List.take_zero, List.nil_append, List.drop_of_length_le (by rw [hfl]; exact Nat.le_refl _), List.append_nil] at hf
  obtain ⟨e1, e2⟩ := (evParts_enum hi hp).spec hs rfl
  have hz : VReps w (cx.X ++ M S) ((List.replicate n (zs.map T.v)).flatten) ((Array.range (n * k)).map (zs.toArray[· % zs.toArray.size]!)).toList := by rw [rep_range h7]; exact vreps_flat n zs h8
  obtain ⟨cells, c1, c2⟩ := fill_spec _ _ _ _ _ hz e1 e2 hf
  have hlen : (ts.flatMap cellsT).length = n * k := by
    rw [← hl]
    clear c2 hf hfl hl hp hall hr c1 e1 e2
    induction ts with
    | nil => simp
    | cons t r ih =>
      rw [List.flatMap_cons, List.length_append, (hall' t List.mem_cons_self).2, ih (fun t ht => hall' t (List.mem_cons_of_mem _ ht)), List.length_cons, Nat.succ_mul, Nat.add_comm]
  have hka := keeps_alloc w (.cells cells e)
  refine ⟨.slice (some ⟨w.heap.size, 0, none⟩) n n, w.alloc (.cells cells e), _, _, ?_, ?_, .v _, hr _ rfl⟩
  · have hlim : ¬ (n * k > 2 ^ 24) := by omega
    simp only [execOp, ho, Instr.buildSlice, Sem.run_bind, run_underlying h1, Result.andThen_ok, sizeOf, typeInfo, run_program, h2, h4, Sem.run_pure]
    rw [if_neg hlim]
    have hl' : (Array.map (fun p : Nat × Operand => (p.1, a.eval p.2)) parts).toList = parts.toList.map fun p => (p.1, a.eval p.2) := by simp
    by_cases h0 : n * k = 0
    · rw [if_pos h0]
      rw [h0, show Array.range 0 = #[] from rfl, Array.map_empty] at c1
      have hfill : Instr.fill (fun i => some (i * k, k)) ((Array.range (n * k)).map fun x => (#[] : Array Value)[x % (#[] : Array Value).size]!) (Array.map (fun p : Nat × Operand => (p.1, a.eval p.2)) parts).toList = some cells := by
        rw [h0, show Array.range 0 = #[] from rfl, Array.map_empty, hl']
        exact c1
      simp only [Sem.run_bind, Sem.run_pure, Result.andThen_ok, hfill, newRow, run_newObj]
      rfl
    · rw [if_neg h0]
      have hfill : Instr.fill (fun i => some (i * k, k)) ((Array.range (n * k)).map fun x => zs.toArray[x % zs.toArray.size]!) (Array.map (fun p : Nat × Operand => (p.1, a.eval p.2)) parts).toList = some cells := by
        rw [hl']
        exact c1
      simp only [Sem.run_bind, Sem.run_pure, Result.andThen_ok, zeroValue, typeInfo, run_program, h2, h3, h6, hfill, newRow, run_newObj]
      rfl
  · have hm : n ≤ maxLen := by
      unfold maxLen
      have : n ≤ n * k := Nat.le_mul_of_pos_right n hk
      omega
    refine hs.add rfl hka ⟨cells.toList, ⟨by rw [← c2.len, hlen], hm, Nat.le_refl _, .inr ⟨w.heap.size, cells, (0, 0), rfl, heap_alloc_new w _, .inl rfl, ?_, ?_⟩⟩, hs.repsAdd rfl hka c2⟩
    · have := c2.len
      rw [hlen] at this
      simpa using this.symm
    · have := c2.len
      rw [hlen] at this
      rw [this]
      exact List.take_length
end
end Go.Proofs.Ytlfklgganokgdaa

namespace Go.Proofs.Ytlfklgganokgdaa
open Go Go.RowKit
set_option linter.unusedSimpArgs false
set_option linter.unusedVariables false
abbrev Fam := List (Option (List Bool))
/-- What is set in the first says less. -/
def leB (a b : List Bool) : Prop := ∀ n, a.getD n false = true → b.getD n false = true
def leO : Option (List Bool) → Option (List Bool) → Prop
  | _, none => True
  | none, some _ => False
  | some a, some b => leB a b
def famAt (X : Fam) (k : Nat) : Option (List Bool) := X.getD k none
def firstF (R W P : Nat) : List Bool := List.replicate P true ++ List.replicate (W - P) false
structure Sol (f : Fn) (R W : Nat) (Y : Fam) : Prop where
  len : Y.length = f.code.length
  bits : ∀ k a, famAt Y k = some a → a.length = W
  first : ∃ a, famAt Y 0 = some a ∧ leB a (firstF R W f.params.toNat)
  step : ∀ k a, k < f.code.length → famAt Y k = some a → ∀ l ∈ nextF (whL f.code) (f.code.getD k default) k, leO (famAt Y l.toNat) (some (behindF R (f.code.getD k default) a))
def readOkB (R : Nat) (i : Ins) (a : List Bool) : Bool := (readsF i).all (fun r => a.getD r.toNat false) && (!decide (i.kind = 31) || a.getD (R + i.imm.toNat) false)
def ReadsOk (f : Fn) (R : Nat) (X : Fam) : Prop := ∀ k a, k < f.code.length → famAt X k = some a → readOkB R (f.code.getD k default) a = true
/-- A function reads nothing that isn't set. -/
def StrictF (f : Fn) : Prop := ∃ Y, Sol f f.regs.toNat (f.regs.toNat + f.slots.toNat) Y ∧ ReadsOk f f.regs.toNat Y
theorem leB.refl (a : List Bool) : leB a a := fun _ h => h
theorem leB.trans {a b c : List Bool} (h : leB a b) (h' : leB b c) : leB a c := fun n q => h' n (h n q)
theorem leO.refl : ∀ a : Option (List Bool), leO a a
  | none => trivial
  | some a => leB.refl a
theorem leO.trans {a b c : Option (List Bool)} (h : leO a b) (h' : leO b c) : leO a c := by
  cases c with
  | none => cases a <;> trivial
  | some c =>
    cases b with
    | none => exact absurd h' (by cases a <;> exact id)
    | some b =>
      cases a with
      | none => exact h
      | some a => exact leB.trans h h'
theorem getD_set {l : List Bool} {i n : Nat} {b : Bool} : (l.set i b).getD n false = if i = n ∧ i < l.length then b else l.getD n false := by
  simp only [List.getD_eq_getElem?_getD, List.getElem?_set]
  by_cases h : i = n
  · subst h
    by_cases h2 : i < l.length
    · simp [h2]
    · simp [h2]
  · simp [h]
theorem leB.set {a b : List Bool} (h : leB a b) (hl : a.length = b.length) (i : Nat) : leB (a.set i true) (b.set i true) := fun n q => by
  rw [getD_set] at q ⊢
  split at q
  · rename_i h1; rw [if_pos ⟨h1.1, by omega⟩]
  · rename_i h1; rw [if_neg (fun h2 => h1 ⟨h2.1, by omega⟩)]; exact h n q
theorem getD_rep {R : Nat} {s : List Bool} {n : Nat} (h : R ≤ s.length) : (List.replicate R false ++ s.drop R).getD n false = if n < R then false else s.getD n false := by
  simp only [List.getD_eq_getElem?_getD]
  by_cases hn : n < R
  · rw [List.getElem?_append_left (by simpa using hn), if_pos hn]
    simp [hn]
  · rw [List.getElem?_append_right (by simp; omega), if_neg hn, List.getElem?_drop, List.length_replicate, show R + (n - R) = n by omega]
theorem behind_mono {R : Nat} {i : Ins} {a b : List Bool} (h : leB a b) (hl : a.length = b.length) (hR : R ≤ a.length) : leB (behindF R i a) (behindF R i b) := by
  have h1 : leB (bh1 R i a) (bh1 R i b) := by
    unfold bh1
    split
    · intro n q
      rw [getD_rep (by omega)] at q ⊢
      split at q
      · cases q
      · rename_i h2; rw [if_neg h2]; exact h n q
    · exact h
  have l1 : (bh1 R i a).length = (bh1 R i b).length := by rw [bh1_len hR, bh1_len (by omega), hl]
  have h2 : leB (bh2 R i a) (bh2 R i b) := by
    unfold bh2
    split
    · exact h1.set l1 _
    · exact h1
  have l2 : (bh2 R i a).length = (bh2 R i b).length := by rw [bh2_len hR, bh2_len (by omega), hl]
  unfold behindF
  split
  · exact h2.set l2 _
  · exact h2
/-! ### the search for the greatest family -/
def meetB (a b : List Bool) : List Bool := List.zipWith (· && ·) a b
def meetX (X : Fam) (l : Nat) (out : List Bool) : Fam := X.set l (some (match famAt X l with | none => out | some a => meetB a out))
theorem meet_get {a b : List Bool} (hl : a.length = b.length) (n : Nat) : (meetB a b).getD n false = (a.getD n false && b.getD n false) := by
  unfold meetB
  simp only [List.getD_eq_getElem?_getD, List.getElem?_zipWith]
  by_cases h : n < a.length
  · rw [List.getElem?_eq_getElem h, List.getElem?_eq_getElem (by omega)]; rfl
  · rw [List.getElem?_eq_none (by omega), List.getElem?_eq_none (by omega)]; rfl
theorem famAt_set {X : Fam} {l k : Nat} {v : Option (List Bool)} (hl : l < X.length) : famAt (X.set l v) k = if k = l then v else famAt X k := by
  unfold famAt
  simp only [List.getD_eq_getElem?_getD, List.getElem?_set]
  by_cases h : l = k
  · subst h; simp [hl]
  · rw [if_neg h, if_neg (fun e => h e.symm)]
/-- Every family that holds says less. -/
def Above (f : Fn) (R W : Nat) (X : Fam) : Prop := ∀ Y, Sol f R W Y → ∀ k, leO (famAt Y k) (famAt X k)
structure FamIn (f : Fn) (W : Nat) (X : Fam) : Prop where
  len : X.length = f.code.length
  bits : ∀ k a, famAt X k = some a → a.length = W
theorem Above.meet {f : Fn} {R W k : Nat} {X : Fam} {a : List Bool} {l : Int} (h : Above f R W X) (hi : FamIn f W X) (hR : R ≤ W) (hk : k < f.code.length) (ha : famAt X k = some a) (hl : l ∈ nextF (whL f.code) (f.code.getD k default) k) (hll : l.toNat < f.code.length) :
    Above f R W (meetX X l.toNat (behindF R (f.code.getD k default) a)) := fun Y hY q => by
  have hx := h Y hY
  have hal := hi.bits k a ha
  unfold meetX
  rw [famAt_set (by rw [hi.len]; exact hll)]
  by_cases hq : q = l.toNat
  · subst hq
    rw [if_pos rfl]
    have hyk := hx k
    rw [ha] at hyk
    cases hy : famAt Y k with
    | none => rw [hy] at hyk; exact absurd hyk id
    | some b =>
      rw [hy] at hyk
      have hbl := hY.bits k b hy
      have h1 := hY.step k b hk hy l hl
      have h2 := h1.trans (c := some (behindF R (f.code.getD k default) a)) (behind_mono hyk (by rw [hbl, hal]) (by omega))
      cases hX : famAt X l.toNat with
      | none => exact h2
      | some c =>
        have h3 := hx l.toNat
        rw [hX] at h3
        cases hz : famAt Y l.toNat with
        | none => rw [hz] at h3; exact absurd h3 id
        | some z =>
          rw [hz] at h2 h3
          intro n hn
          have hcl := hi.bits _ c hX
          rw [meet_get (by rw [hcl, behind_len (by omega), hal]), h2 n hn, h3 n hn]
          rfl
  · rw [if_neg hq]; exact hx q
theorem FamIn.meet {f : Fn} {W l : Nat} {X : Fam} {out : List Bool} (h : FamIn f W X) (hl : l < f.code.length) (ho : out.length = W) : FamIn f W (meetX X l out) := by
  refine ⟨by unfold meetX; rw [List.length_set, h.len], fun k a ha => ?_⟩
  unfold meetX at ha
  rw [famAt_set (by rw [h.len]; exact hl)] at ha
  split at ha
  · cases hX : famAt X l with
    | none => rw [hX] at ha; simp only [Option.some.injEq] at ha; rw [← ha]; exact ho
    | some c =>
      rw [hX] at ha
      simp only [Option.some.injEq] at ha
      rw [← ha]
      unfold meetB
      rw [List.length_zipWith, h.bits _ c hX, ho, Nat.min_self]
  · exact h.bits k a ha
/-- The greatest: it holds, and all that hold say less. -/
theorem strict_iff {f : Fn} {X : Fam} (hs : Sol f f.regs.toNat (f.regs.toNat + f.slots.toNat) X) (ha : Above f f.regs.toNat (f.regs.toNat + f.slots.toNat) X) : StrictF f ↔ ReadsOk f f.regs.toNat X := by
  constructor
  · rintro ⟨Y, hY, hr⟩ k a hk hX
    have h1 := ha Y hY k
    rw [hX] at h1
    cases hy : famAt Y k with
    | none => rw [hy] at h1; exact absurd h1 id
    | some b =>
      rw [hy] at h1
      have h2 := hr k b hk hy
      unfold readOkB at h2 ⊢
      rw [Bool.and_eq_true, List.all_eq_true, Bool.or_eq_true] at h2 ⊢
      exact ⟨fun r hr' => h1 _ (h2.1 r hr'), h2.2.imp id (fun q => h1 _ q)⟩
  · exact fun h => ⟨X, hs, h⟩
/-- What is read unset where all that hold say less: none shows all. -/
theorem strict_not {f : Fn} {X : Fam} {k : Nat} {a : List Bool} (ha : Above f f.regs.toNat (f.regs.toNat + f.slots.toNat) X) (hk : k < f.code.length) (hX : famAt X k = some a) (hb : readOkB f.regs.toNat (f.code.getD k default) a = false) : ¬ StrictF f := by
  rintro ⟨Y, hY, hr⟩
  have h1 := ha Y hY k
  rw [hX] at h1
  cases hy : famAt Y k with
  | none => rw [hy] at h1; exact absurd h1 id
  | some b =>
    rw [hy] at h1
    have h2 := hr k b hk hy
    have : readOkB f.regs.toNat (f.code.getD k default) a = true := by
      unfold readOkB at h2 ⊢
      rw [Bool.and_eq_true, List.all_eq_true, Bool.or_eq_true] at h2 ⊢
      exact ⟨fun r hr' => h1 _ (h2.1 r hr'), h2.2.imp id (fun q => h1 _ q)⟩
    rw [hb] at this
    cases this
/-! ### how much is left -/
def potO (W : Nat) : Option (List Bool) → Nat
  | none => W + 1
  | some a => a.countP id
def pot (W : Nat) (X : Fam) : Nat := (X.map (potO W)).sum
theorem sum_set {l : List Nat} {k : Nat} {v : Nat} (h : k < l.length) : (l.set k v).sum + l.getD k 0 = l.sum + v := by
  induction l generalizing k with
  | nil => simp at h
  | cons x r ih =>
    cases k with
    | zero => simp; omega
    | succ k =>
      have := ih (k := k) (by simpa using h)
      simp only [List.set_cons_succ, List.sum_cons, List.getD_cons_succ]
      omega
theorem pot_set {W k : Nat} {X : Fam} {v : Option (List Bool)} (h : k < X.length) : pot W (X.set k v) + potO W (famAt X k) = pot W X + potO W v := by
  unfold pot
  rw [List.map_set]
  have := sum_set (l := X.map (potO W)) (k := k) (v := potO W v) (by simpa using h)
  rw [show (X.map (potO W)).getD k 0 = potO W (famAt X k) by unfold famAt; simp [h]] at this
  exact this
theorem count_le (a : List Bool) : a.countP id ≤ a.length := List.countP_le_length
end Go.Proofs.Ytlfklgganokgdaa

namespace Go.Proofs.Ytlfklgganokgdaa
open Go Go.RowKit
set_option linter.unusedSimpArgs false
set_option linter.unusedVariables false
/-- Where labels are. -/
theorem wh_pre {code : List Ins} (l : Int) : ∀ j, j ≤ code.length → 1 ≤ getL l (cntL (code.take j)) → 0 ≤ getL l (whT code j) ∧ getL l (whT code j) < j := by
  intro j
  induction j with
  | zero => intro _ h; simp [cntL, getL] at h
  | succ j ih =>
    intro hj h
    rw [cnt_succ (by omega)] at h
    rw [wh_succ (by omega)]
    have ih := ih (by omega)
    unfold cntStep at h
    unfold whStep
    by_cases hk : (code.getD j default).kind = 19
    · rw [if_pos hk] at h ⊢
      rw [getL_put] at h ⊢
      by_cases hl : l = (code.getD j default).l
      · rw [if_pos hl]; constructor <;> simp only <;> omega
      · rw [if_neg hl] at h ⊢
        have := ih h
        omega
    · rw [if_neg hk] at h ⊢
      have := ih h
      omega
theorem wh_in {code : List Ins} {l : Int} (h : 1 ≤ getL l (cntL code)) : 0 ≤ getL l (whL code) ∧ getL l (whL code) < code.length := by
  have := wh_pre (code := code) l code.length (Nat.le_refl _) (by rw [List.take_length]; exact h)
  rwa [wh_all (Nat.le_refl _)] at this
theorem next_in {p : Prog} {f : Fn} (hf : FnOk p f) {k : Nat} (hk : k < f.code.length) : ∀ l ∈ nextF (whL f.code) (f.code.getD k default) k, 0 ≤ l ∧ l.toNat < f.code.length := by
  intro l hl
  unfold nextF at hl
  rcases List.mem_append.1 hl with hl | hl
  · unfold nx1 at hl
    split at hl
    · rename_i hk2
      rw [List.mem_singleton] at hl
      subst hl
      have hlab := (hf.ins _ (getD_mem hk)).lab (by rcases hk2 with h | h <;> rw [h] <;> rfl)
      have := wh_in (code := f.code) (l := (f.code.getD k default).l) (by omega)
      omega
    · cases hl
  · split at hl
    · cases hl
    · rename_i he
      rw [List.mem_singleton] at hl
      subst hl
      have : k + 1 ≠ f.code.length := fun e => he (by
        have h1 := hf.last
        unfold lastK at h1
        rwa [show f.code.length - 1 = k by omega] at h1)
      omega
theorem iimm_at {l : List Ins} {j : Nat} (h : j < l.length) : (l.flatMap insCells)[j * 11 + 9]? = some (zi (l.getD j default).imm) := flat_at ik h 9 (by decide)
theorem reads_in {p : Prog} {f : Fn} {many : LM} {i : Ins} (h : InsOk p f many i) : ∀ r ∈ readsF i, 0 ≤ r ∧ r < f.regs := by
  intro r hr
  unfold readsF rd2 rd1 at hr
  rcases List.mem_append.1 hr with hr | hr
  · rcases List.mem_append.1 hr with hr | hr
    · split at hr
      · rename_i e; rw [List.mem_singleton.1 hr]; exact h.a e
      · cases hr
    · split at hr
      · rename_i e; rw [List.mem_singleton.1 hr]; exact h.b e
      · cases hr
  · split at hr
    · rename_i e; exact (h.args e).1 r hr
    · cases hr
theorem rd_len {i : Ins} (h : i.args.length ≤ 1048576) : (readsF i).length ≤ 2097152 := by
  have := rd2_len i
  unfold readsF
  rw [List.length_append]
  split <;> simp <;> omega
theorem nx_len (wh : LM) (i : Ins) (k : Nat) : (nextF wh i k).length ≤ 2 := by
  have := nx1_len wh i
  unfold nextF
  rw [List.length_append]
  split <;> simp <;> omega
theorem rd_bad1 {R : Nat} {i : Ins} {a : List Bool} {j : Nat} (hj : j < (readsF i).length) (h : a.getD ((readsF i).getD j default).toNat false = false) : readOkB R i a = false := by
  unfold readOkB
  rw [Bool.and_eq_false_iff]
  left
  exact not_all hj h
theorem rd_bad2 {R : Nat} {i : Ins} {a : List Bool} (hk : i.kind = 31) (h : a.getD (R + i.imm.toNat) false = false) : readOkB R i a = false := by
  unfold readOkB
  rw [h, decide_eq_true hk]
  simp
theorem rd_ok {R : Nat} {i : Ins} {a : List Bool} (h1 : ∀ q, q < (readsF i).length → a.getD ((readsF i).getD q default).toNat false = true) (h2 : (decide (i.kind = 31) && !a.getD (R + i.imm.toNat) false) = false) : readOkB R i a = true := by
  unfold readOkB
  rw [Bool.and_eq_true]
  refine ⟨all_of h1, ?_⟩
  cases h3 : decide (i.kind = 31) with
  | false => rfl
  | true =>
    rw [h3] at h2
    simpa using h2
structure Sl where
  A : Option Addr
  c : Nat
  v : Option (List Bool)
  deriving Inhabited
def Sl.bits (s : Sl) : List Bool := s.v.getD []
def slCell (s : Sl) : T := .v (.slice s.A s.bits.length s.c)
def slRow (s : Sl) : Ent := .row s.A s.bits.length s.c 4 1 (s.bits.map bv)
def slOk (s : Sl) : Prop := s.A.isSome = s.v.isSome
def famS (l : List Sl) : Fam := l.map (·.v)
theorem fam_at {l : List Sl} {k : Nat} (h : k < l.length) : famAt (famS l) k = (l.getD k default).v := by
  unfold famAt famS
  rw [gd h]
  simp [h]
theorem sl_row {l : List Sl} {k : Nat} (h : k < l.length) : (l.map slRow)[k]? = some (slRow (l.getD k default)) := by
  rw [List.getElem?_map, List.getElem?_eq_getElem h, gd h]; rfl
theorem sl_cell {l : List Sl} {k : Nat} (h : k < l.length) : (l.map slCell)[k * 1 + 0]? = some (slCell (l.getD k default)) := by
  rw [Nat.mul_one, Nat.add_zero, List.getElem?_map, List.getElem?_eq_getElem h, gd h]; rfl
theorem bit_at {l : List Bool} {n : Nat} (h : n < l.length) : (l.map bv)[n * 1 + 0]? = some (bv (l.getD n false)) := by
  rw [Nat.mul_one, Nat.add_zero, List.getElem?_map, List.getElem?_eq_getElem h]
  simp [h]
theorem len_bits {l : List Bool} : (l.map bv).length = l.length * 1 := by simp
theorem sl_split {l : List Sl} {k : Nat} (h : k < l.length) : l.map slRow = (l.take k).map slRow ++ ([slRow (l.getD k default)] ++ (l.drop (k + 1)).map slRow) := by
  conv => lhs; rw [← List.take_append_drop k l, List.drop_eq_getElem_cons h]
  rw [List.map_append, List.map_cons, gd h]
  rfl
theorem fam_set {l : List Sl} {k : Nat} {s : Sl} : famS (l.set k s) = (famS l).set k s.v := by unfold famS; rw [List.map_set]
/-! ### the two bits of each place -/
def mixB (a out : List Bool) (n : Nat) : List Bool := (meetB a out).take n ++ a.drop n
theorem mix_0 (a out : List Bool) : mixB a out 0 = a := rfl
theorem meet_len {a out : List Bool} (h : a.length = out.length) : (meetB a out).length = a.length := by unfold meetB; rw [List.length_zipWith, h, Nat.min_self]
theorem mix_len {a out : List Bool} (h : a.length = out.length) (n : Nat) : (mixB a out n).length = a.length := by
  unfold mixB
  rw [List.length_append, List.length_take, List.length_drop, meet_len h]
  omega
theorem mix_all {a out : List Bool} (h : a.length = out.length) : mixB a out a.length = meetB a out := by
  unfold mixB
  rw [List.drop_length, List.append_nil, List.take_of_length_le (by rw [meet_len h]; exact Nat.le_refl _)]
theorem mix_at {a out : List Bool} (h : a.length = out.length) {n m : Nat} (hm : n ≤ m) : (mixB a out n).getD m false = a.getD m false := by
  unfold mixB
  simp only [List.getD_eq_getElem?_getD]
  by_cases hn : n ≤ a.length
  · rw [List.getElem?_append_right (by rw [List.length_take, meet_len h]; omega), List.length_take, meet_len h, Nat.min_eq_left hn, List.getElem?_drop, show n + (m - n) = m by omega]
  · rw [List.getElem?_eq_none (by rw [List.length_append, List.length_take, List.length_drop, meet_len h]; omega), List.getElem?_eq_none (by omega)]
theorem mix_succ {a out : List Bool} (h : a.length = out.length) {n : Nat} (hn : n < a.length) : mixB a out (n + 1) = (mixB a out n).set n (a.getD n false && out.getD n false) := by
  have hl : ((meetB a out).take n).length = n := by rw [List.length_take, meet_len h]; omega
  unfold mixB
  rw [List.set_append_right _ _ (by omega), hl, Nat.sub_self, List.drop_eq_getElem_cons hn, List.set_cons_zero, List.take_succ_eq_append_getElem (by rw [meet_len h]; exact hn), List.append_assoc]
  congr 1
  rw [List.singleton_append]
  congr 1
  have := meet_get h n
  simp only [List.getD_eq_getElem?_getD, List.getElem?_eq_getElem (show n < (meetB a out).length by rw [meet_len h]; exact hn), Option.getD_some] at this
  rw [this]
  simp only [List.getD_eq_getElem?_getD]
theorem mix_same {a out : List Bool} (h : a.length = out.length) {n : Nat} (hn : n < a.length) (hb : (a.getD n false && !out.getD n false) = false) : mixB a out (n + 1) = mixB a out n := by
  rw [mix_succ h hn]
  have e : (a.getD n false && out.getD n false) = (mixB a out n).getD n false := by
    rw [mix_at h (Nat.le_refl _)]
    cases h1 : a.getD n false <;> cases h2 : out.getD n false <;> simp_all
  rw [e]
  have hl : n < (mixB a out n).length := by rw [mix_len h]; exact hn
  simp [hl]
theorem mix_turn {a out : List Bool} (h : a.length = out.length) {n : Nat} (hn : n < a.length) (hb : (a.getD n false && !out.getD n false) = true) : mixB a out (n + 1) = (mixB a out n).set n false ∧ mixB a out (n + 1) ≠ a := by
  rw [Bool.and_eq_true, Bool.not_eq_true'] at hb
  have e := mix_succ h hn
  rw [hb.1, hb.2] at e
  refine ⟨e, fun e2 => ?_⟩
  have h1 : (mixB a out (n + 1)).getD n false = a.getD n false := by rw [e2]
  rw [e, getD_set, if_pos ⟨rfl, by rw [mix_len h]; exact hn⟩, hb.1] at h1
  cases h1
theorem meet_count : ∀ {a out : List Bool}, a.length = out.length → (meetB a out).countP id ≤ a.countP id ∧ (meetB a out ≠ a → (meetB a out).countP id < a.countP id)
  | [], [], _ => ⟨Nat.le_refl _, fun h => absurd rfl h⟩
  | x :: a, y :: out, h => by
    have ih := meet_count (a := a) (out := out) (by simpa using h)
    have e : meetB (x :: a) (y :: out) = (x && y) :: meetB a out := rfl
    rw [e, List.countP_cons, List.countP_cons]
    cases x with
    | false => refine ⟨by simpa using ih.1, fun hne => ?_⟩; have := ih.2 (fun e2 => hne (by rw [e2]; rfl)); simpa using this
    | true =>
      cases y with
      | true => refine ⟨by simpa using ih.1, fun hne => ?_⟩; have := ih.2 (fun e2 => hne (by rw [e2]; rfl)); simpa using this
      | false => constructor <;> (try intro _) <;> simp <;> have := ih.1 <;> omega
theorem meet_le {a out : List Bool} (h : a.length = out.length) (he : meetB a out = a) : leB a out := fun n hn => by
  have := meet_get h n
  rw [he, hn] at this
  simpa using this.symm
/-! ### a round -/
structure FI (f : Fn) (R W : Nat) (X0 X : Fam) (more : Bool) : Prop where
  fin : FamIn f W X
  ab : Above f R W X
  fst : ∃ a, famAt X 0 = some a ∧ leB a (firstF R W f.params.toNat)
  le : pot W X ≤ pot W X0
  lt : more = true → pot W X < pot W X0
  eq : more = false → X = X0
def stab (f : Fn) (R : Nat) (X : Fam) (k : Nat) : Prop := ∀ a, famAt X k = some a → ∀ l ∈ nextF (whL f.code) (f.code.getD k default) k, leO (famAt X l.toNat) (some (behindF R (f.code.getD k default) a))
theorem FI.start {f : Fn} {R W : Nat} {X : Fam} (h1 : FamIn f W X) (h2 : Above f R W X) (h3 : ∃ a, famAt X 0 = some a ∧ leB a (firstF R W f.params.toNat)) : FI f R W X X false := ⟨h1, h2, h3, Nat.le_refl _, fun h => (by cases h), fun _ => rfl⟩
theorem FI.done {f : Fn} {R W : Nat} {X0 X : Fam} (h : FI f R W X0 X false) (hs : ∀ k, k < f.code.length → stab f R X0 k) : Sol f R W X := by
  obtain rfl := h.eq rfl
  exact ⟨h.fin.len, h.fin.bits, h.fst, fun k a hk ha l hl => hs k hk a ha l hl⟩
def chg (X : Fam) (l : Nat) (out : List Bool) : Bool := match famAt X l with | none => true | some a => !decide (meetB a out = a)
theorem FI.meet {f : Fn} {R W k : Nat} {X0 X : Fam} {more : Bool} {a : List Bool} {l : Int} (h : FI f R W X0 X more) (hR : R ≤ W) (hk : k < f.code.length) (hal : a.length = W) (ha : ∀ Y, Sol f R W Y → leO (famAt Y k) (some a)) (hl : l ∈ nextF (whL f.code) (f.code.getD k default) k) (hll : l.toNat < f.code.length) :
    FI f R W X0 (meetX X l.toNat (behindF R (f.code.getD k default) a)) (more || chg X l.toNat (behindF R (f.code.getD k default) a)) := by
  have hob : (behindF R (f.code.getD k default) a).length = W := by rw [behind_len (by omega), hal]
  have hlX : l.toNat < X.length := by rw [h.fin.len]; exact hll
  have hpot := pot_set (W := W) (v := some (match famAt X l.toNat with | none => behindF R (f.code.getD k default) a | some c => meetB c (behindF R (f.code.getD k default) a))) hlX
  have hle : pot W (meetX X l.toNat (behindF R (f.code.getD k default) a)) ≤ pot W X ∧ (chg X l.toNat (behindF R (f.code.getD k default) a) = true → pot W (meetX X l.toNat (behindF R (f.code.getD k default) a)) < pot W X) ∧ (chg X l.toNat (behindF R (f.code.getD k default) a) = false → meetX X l.toNat (behindF R (f.code.getD k default) a) = X) := by
    unfold meetX chg
    cases hX : famAt X l.toNat with
    | none =>
      rw [hX] at hpot
      have := count_le (behindF R (f.code.getD k default) a)
      simp only [potO] at hpot ⊢
      exact ⟨by omega, fun _ => by omega, fun h => by cases h⟩
    | some c =>
      rw [hX] at hpot
      have hcl := h.fin.bits _ c hX
      have hc := meet_count (a := c) (out := behindF R (f.code.getD k default) a) (by rw [hcl, hob])
      simp only [potO] at hpot ⊢
      refine ⟨by omega, fun hch => ?_, fun hch => ?_⟩
      · simp only [Bool.not_eq_true', decide_eq_false_iff_not] at hch
        have := hc.2 hch
        omega
      · simp only [Bool.not_eq_false', decide_eq_true_eq] at hch
        rw [hch]
        unfold famAt at hX
        apply List.ext_getElem?
        intro q
        rw [List.getElem?_set]
        split
        · rename_i hq
          subst hq
          rw [List.getD_eq_getElem?_getD, List.getElem?_eq_getElem hlX] at hX
          rw [List.getElem?_eq_getElem hlX]
          simp only [Option.getD_some] at hX
          rw [hX]
        · rfl
  refine ⟨h.fin.meet hll hob, fun Y hY q => ?_, ?_, by have := h.le; omega, fun hm => ?_, fun hm => ?_⟩
  · have hx := h.ab Y hY
    unfold meetX
    rw [famAt_set hlX]
    by_cases hq : q = l.toNat
    · subst hq
      rw [if_pos rfl]
      have hyk := ha Y hY
      cases hy : famAt Y k with
      | none => rw [hy] at hyk; exact absurd hyk id
      | some b =>
        rw [hy] at hyk
        have hbl := hY.bits k b hy
        have h1 := hY.step k b hk hy l hl
        have h2 := h1.trans (c := some (behindF R (f.code.getD k default) a)) (behind_mono hyk (by rw [hbl, hal]) (by omega))
        cases hX : famAt X l.toNat with
        | none => exact h2
        | some c =>
          have h3 := hx l.toNat
          rw [hX] at h3
          cases hz : famAt Y l.toNat with
          | none => rw [hz] at h3; exact absurd h3 id
          | some z =>
            rw [hz] at h2 h3
            intro n hn
            have hcl := h.fin.bits _ c hX
            rw [meet_get (by rw [hcl, hob]), h2 n hn, h3 n hn]
            rfl
    · rw [if_neg hq]; exact hx q
  · obtain ⟨z, hz1, hz2⟩ := h.fst
    unfold meetX
    rw [famAt_set hlX]
    by_cases hq : 0 = l.toNat
    · rw [if_pos hq, ← hq, hz1]
      refine ⟨_, rfl, fun n hn => ?_⟩
      rw [meet_get (by rw [h.fin.bits 0 z hz1, hob]), Bool.and_eq_true] at hn
      exact hz2 n hn.1
    · rw [if_neg hq]; exact ⟨z, hz1, hz2⟩
  · have := h.le
    rw [Bool.or_eq_true] at hm
    rcases hm with hm | hm
    · have := h.lt hm; omega
    · have := hle.2.1 hm; omega
  · rw [Bool.or_eq_false_iff] at hm
    rw [hle.2.2 hm.2]
    exact h.eq hm.1
/-! ### the slots in memory -/
theorem mk_false (n : Nat) : (List.replicate n (([Value.bool false]).map T.v)).flatten = (List.replicate n false).map bv := by
  induction n with
  | zero => rfl
  | succ n ih => rw [List.replicate_succ, List.flatten_cons, ih, List.replicate_succ]; rfl
theorem mk_nil (n : Nat) : (List.replicate n (([Value.slice none 0 0]).map T.v)).flatten = List.replicate n (T.v (.slice none 0 0)) := by
  induction n with
  | zero => rfl
  | succ n ih => rw [List.replicate_succ, List.flatten_cons, ih, List.replicate_succ]; rfl
theorem first_set {j W : Nat} (h : j < W) : ((List.replicate j true ++ List.replicate (W - j) false).map bv).set j (bv true) = (List.replicate (j + 1) true ++ List.replicate (W - (j + 1)) false).map bv := by
  rw [map_set]
  congr 1
  rw [List.set_append_right _ _ (by simp)]
  simp only [List.length_replicate, Nat.sub_self]
  rw [show W - j = (W - (j + 1)) + 1 by omega, List.replicate_succ, List.set_cons_zero, List.replicate_succ', List.append_assoc]
  rfl
def sls0 (A : Option Addr) (W n : Nat) (first : List Bool) : List Sl := (⟨A, W, some first⟩ : Sl) :: List.replicate (n - 1) ⟨none, 0, none⟩
theorem sls0_cells {A : Option Addr} {W n : Nat} {first : List Bool} (hn : 0 < n) (hl : first.length = W) : (List.replicate n (T.v (.slice none 0 0))).set 0 (.v (.slice A W W)) = (sls0 A W n first).map slCell := by
  obtain ⟨m, rfl⟩ : ∃ m, n = m + 1 := ⟨n - 1, by omega⟩
  unfold sls0
  rw [List.replicate_succ, List.set_cons_zero, List.map_cons, List.map_replicate, Nat.add_sub_cancel]
  unfold slCell Sl.bits
  simp only [Option.getD_some, Option.getD_none, hl]
  rfl
theorem sls0_rows {A : Option Addr} {W n : Nat} {first : List Bool} (hl : first.length = W) : (sls0 A W n first).map slRow = .row A W W 4 1 (first.map bv) :: List.replicate (n - 1) (.row none 0 0 4 1 []) := by
  unfold sls0
  rw [List.map_cons, List.map_replicate]
  unfold slRow Sl.bits
  simp only [Option.getD_some, Option.getD_none, hl]
  rfl
theorem sls0_len {A : Option Addr} {W n : Nat} {first : List Bool} (hn : 0 < n) : (sls0 A W n first).length = n := by
  unfold sls0
  rw [List.length_cons, List.length_replicate]; omega
theorem sls0_ok {A : Option Addr} {W n : Nat} {first : List Bool} (hA : A.isSome = true) : ∀ s ∈ sls0 A W n first, slOk s := fun s hs => by
  unfold sls0 at hs
  rcases List.mem_cons.1 hs with rfl | hs
  · exact hA
  · rw [(List.mem_replicate.1 hs).2]; rfl
theorem sls0_at {A : Option Addr} {W n : Nat} {first : List Bool} (k : Nat) : famAt (famS (sls0 A W n first)) k = if k = 0 then some first else none := by
  unfold sls0 famS famAt
  cases k with
  | zero => rfl
  | succ k =>
    rw [if_neg (by omega), List.map_cons, List.getD_cons_succ, List.map_replicate, List.getD_eq_getElem?_getD, List.getElem?_replicate]
    split <;> rfl
theorem first_len {R W P : Nat} (h : P ≤ W) : (firstF R W P).length = W := by unfold firstF; simp; omega
theorem sls0_fi {f : Fn} {A : Option Addr} {R W : Nat} (hn : 0 < f.code.length) (hP : f.params.toNat ≤ W) : FI f R W (famS (sls0 A W f.code.length (firstF R W f.params.toNat))) (famS (sls0 A W f.code.length (firstF R W f.params.toNat))) false := by
  refine FI.start ⟨by unfold famS; rw [List.length_map, sls0_len hn], fun k a ha => ?_⟩ (fun Y hY k => ?_) ⟨_, by rw [sls0_at, if_pos rfl], leB.refl _⟩
  · rw [sls0_at] at ha
    split at ha
    · simp only [Option.some.injEq] at ha
      rw [← ha]; exact first_len hP
    · cases ha
  · rw [sls0_at]
    split
    · rename_i hk
      subst hk
      obtain ⟨a, h1, h2⟩ := hY.first
      rw [h1]; exact h2
    · cases famAt Y k <;> trivial
def slM (sls : List Sl) (L : Nat) (out : List Bool) (n : Nat) : List Sl := sls.set L ⟨(sls.getD L default).A, (sls.getD L default).c, some (mixB (sls.getD L default).bits out n)⟩
theorem slM_0 {sls : List Sl} {L : Nat} {out a : List Bool} (hL : L < sls.length) (ha : (sls.getD L default).v = some a) : slM sls L out 0 = sls := by
  unfold slM
  rw [mix_0]
  have e : (⟨(sls.getD L default).A, (sls.getD L default).c, some (sls.getD L default).bits⟩ : Sl) = sls.getD L default := by
    unfold Sl.bits
    cases h : sls.getD L default with
    | mk A c v => rw [h] at ha; simp only at ha; subst ha; rfl
  rw [e, gd hL, List.set_getElem_self]
theorem slM_row {sls : List Sl} {L : Nat} {out : List Bool} {n : Nat} (hL : L < sls.length) (hlo : (sls.getD L default).bits.length = out.length) : ((slM sls L out n).map slRow)[L]? = some (.row (sls.getD L default).A (sls.getD L default).bits.length (sls.getD L default).c 4 1 ((mixB (sls.getD L default).bits out n).map bv)) := by
  unfold slM
  rw [List.getElem?_map, List.getElem?_set_self hL, ← mix_len hlo n]
  rfl
theorem slM_set {sls : List Sl} {L : Nat} {out : List Bool} {n : Nat} {x : List Bool} (hL : L < sls.length) (hx : mixB (sls.getD L default).bits out (n + 1) = x) (hl : x.length = (sls.getD L default).bits.length) :
    ((slM sls L out n).map slRow).set L (.row (sls.getD L default).A (sls.getD L default).bits.length (sls.getD L default).c 4 1 (x.map bv)) = (slM sls L out (n + 1)).map slRow := by
  unfold slM
  rw [List.map_set, List.set_set, List.map_set, hx]
  have e : slRow ⟨(sls.getD L default).A, (sls.getD L default).c, some x⟩ = .row (sls.getD L default).A (sls.getD L default).bits.length (sls.getD L default).c 4 1 (x.map bv) := by
    rw [← hl]; rfl
  rw [e]
theorem slM_cells {sls : List Sl} {L : Nat} {out : List Bool} {n : Nat} (hL : L < sls.length) (hl : (sls.getD L default).bits.length = out.length) : (slM sls L out n).map slCell = sls.map slCell := by
  unfold slM
  rw [List.map_set]
  have e : slCell ⟨(sls.getD L default).A, (sls.getD L default).c, some (mixB (sls.getD L default).bits out n)⟩ = slCell (sls.getD L default) := by
    unfold slCell
    show T.v (.slice _ (mixB (sls.getD L default).bits out n).length _) = _
    rw [mix_len hl]
  rw [e, gd hL]
  have : (sls.map slCell)[L]? = some (slCell sls[L]) := by rw [List.getElem?_map, List.getElem?_eq_getElem hL]; rfl
  obtain ⟨h1, h2⟩ := List.getElem?_eq_some_iff.1 this
  rw [← h2, List.set_getElem_self]
theorem slM_fam {sls : List Sl} {L : Nat} {out a : List Bool} {n : Nat} (hL : L < sls.length) (ha : (sls.getD L default).v = some a) (hl : a.length = out.length) (hn : n = a.length) : famS (slM sls L out n) = meetX (famS sls) L out ∧ chg (famS sls) L out = !decide (mixB a out n = a) := by
  subst hn
  have hb : (sls.getD L default).bits = a := by unfold Sl.bits; rw [ha]; rfl
  unfold slM meetX chg
  rw [fam_set, fam_at hL, ha, hb, mix_all hl]
  exact ⟨rfl, rfl⟩
theorem slM_ok {sls : List Sl} {L : Nat} {out a : List Bool} {n : Nat} (h : ∀ s ∈ sls, slOk s) (hL : L < sls.length) (ha : (sls.getD L default).v = some a) : ∀ s ∈ slM sls L out n, slOk s := fun s hs => by
  unfold slM at hs
  rcases List.mem_or_eq_of_mem_set hs with hs | rfl
  · exact h s hs
  · have := h _ (getD_mem hL)
    unfold slOk at this ⊢
    rw [ha] at this
    exact this
theorem slM_len {sls : List Sl} {L : Nat} {out : List Bool} {n : Nat} : (slM sls L out n).length = sls.length := by unfold slM; rw [List.length_set]
theorem slN_fam {sls : List Sl} {L : Nat} {out : List Bool} {A : Option Addr} {c : Nat} (hL : L < sls.length) (ha : (sls.getD L default).v = none) : famS (sls.set L ⟨A, c, some out⟩) = meetX (famS sls) L out ∧ chg (famS sls) L out = true := by
  unfold meetX chg
  rw [fam_set, fam_at hL, ha]
  exact ⟨rfl, rfl⟩
theorem slN_ok {sls : List Sl} {L : Nat} {out : List Bool} {A : Option Addr} {c : Nat} (h : ∀ s ∈ sls, slOk s) (hA : A.isSome = true) : ∀ s ∈ sls.set L ⟨A, c, some out⟩, slOk s := fun s hs => by
  rcases List.mem_or_eq_of_mem_set hs with hs | rfl
  · exact h s hs
  · exact hA
theorem sl_none {s : Sl} (h : slOk s) (hA : s.A.isNone = true) : s.v = none := by
  unfold slOk at h
  cases hv : s.v with
  | none => rfl
  | some a => rw [hv, Option.isNone_iff_eq_none.1 hA] at h; cases h
theorem sl_some {s : Sl} (h : slOk s) (hA : s.A.isNone = false) : s.v = some s.bits := by
  unfold slOk at h
  unfold Sl.bits
  cases hv : s.v with
  | some a => rfl
  | none =>
    rw [hv] at h
    cases hA2 : s.A with
    | none => rw [hA2] at hA; cases hA
    | some x => rw [hA2] at h; cases h
section
variable {cx : Cx} {env : Env} {S : St} {ops : Array Oper} {l : List Oper} {code : Code} {K : Env → St → Prop} {Q : Exit → Env → St → Prop}
theorem AW.rowNils (e : TypeId) (k : Nat) : ∀ (m : Nat) {S : St}, AW cx code Q env (S ++ List.replicate m (.row none 0 0 e k [])) → AW cx code Q env S
  | 0, S, h => by simpa using h
  | m + 1, S, h => AW.rowNil e k (AW.rowNils e k m (by rw [List.append_assoc]; rw [List.replicate_succ] at h; exact h))
theorem AWL.putRow {F rows : St} {r : Ent} {L : Nat} (hL : L < rows.length) (h : AWL cx ops l K env (F ++ rows.set L r)) : AWL cx ops l K env (r :: (F ++ rows)) := by
  have e : rows.set L r = rows.take L ++ r :: rows.drop (L + 1) := by rw [List.set_eq_take_append_cons_drop, if_pos hL]
  have e2 : rows = rows.take L ++ rows[L] :: rows.drop (L + 1) := by rw [← List.drop_eq_getElem_cons hL, List.take_append_drop]
  rw [e] at h
  refine AWL.drop (S' := r :: (F ++ (rows.take L ++ rows.drop (L + 1)))) ?_ (AWL.perm ?_ h)
  · refine List.Sublist.cons_cons _ (List.Sublist.append (List.Sublist.refl _) ?_)
    conv => rhs; rw [e2]
    exact List.Sublist.append (List.Sublist.refl _) (List.sublist_cons_self _ _)
  · have h1 : (F ++ (rows.take L ++ r :: rows.drop (L + 1))) = (F ++ rows.take L) ++ r :: rows.drop (L + 1) := by simp
    rw [h1]
    refine List.perm_middle.trans (.of_eq ?_)
    simp
end
end Go.Proofs.Ytlfklgganokgdaa

namespace Go.Proofs.Ytlfklgganokgdaa
open Go Go.RowKit
set_option linter.unusedVariables false
set_option linter.unnecessarySimpa false
set_option linter.unusedSimpArgs false

set_option maxHeartbeats 16000000 in
theorem strict25_ (p : Prog) (f : Fn) (hp : FnIn f) (hf : FnOk p f) (R W : Nat) (hR : f.regs.toNat = R) (hW : f.regs.toNat + f.slots.toNat = W) :
    ACalls Try.prog 25 [.agg (fnCells f)] [] (fun t S => ∃ b, t = bv b ∧ (b = true ↔ StrictF f)) := by
  have hf0 := hf.par0
  have hf1 := hf.par1
  have hf2 := hf.par2
  have hf3 := hf.regs
  have hf4 := hf.slot0
  have hf5 := hf.slot1
  have hf6 := hf.code
  have hfc := hp.code
  have hRi : f.regs = (R : Int) := by omega
  have hRW : R ≤ W := by omega
  have hfl : (firstF R W f.params.toNat).length = W := first_len (by omega)
  have hSol : ∀ X, Sol f R W X → Above f R W X → (StrictF f ↔ ReadsOk f R X) := fun X h1 h2 => by
    subst hR; subst hW
    exact strict_iff h1 h2
  have hNot : ∀ (X : Fam) (k : Nat) (a : List Bool), Above f R W X → k < f.code.length → famAt X k = some a → readOkB R (f.code.getD k default) a = false → ¬ StrictF f := fun X k a h1 h2 h3 h4 => by
    subst hR; subst hW
    exact strict_not h1 h2 h3 h4
  refine ACalls.intro Try.func25 rfl Try.ntmps25 (Nat.le_of_ble_eq_true rfl) rfl fun X w0 => ?_
  refine AW.rseq ?_
  refine AWL.boxOp rfl rfl (B rfl) rfl (E rfl rfl) rfl (fun b1 => ?_)
  refine Y1 (Yv.assign rfl eV) ?_
  refine nl ?_
  refine AW.rseq ?_
  refine Y1 (Yv.loadBoxA rfl ag_51 (i := 0) rfl (E rfl rfl) rfl rfl) ?_
  refine C1 rfl ce_22 (E rfl rfl) (evsC (E rfl rfl) evs0) (S1 := []) (S2 := _) rfl (Labels22 f hfc) ?_
  rintro t19 S19 ⟨m8, w8, rfl, rfl⟩
  refine Y1 (Yv.move rfl eV) ?_
  refine Y1 (Yv.extract rfl eV rfl) ?_
  refine Y1 (Yv.extract rfl eV rfl) ?_
  refine Y1 (Yv.assign rfl eV) ?_
  refine Y1 (Yv.assign rfl eV) ?_
  refine nl ?_
  refine AW.dropAt 0 ?_
  refine AW.rseq ?_
  refine Y1 (Yv.fieldBox rfl fo_51_4 eV) ?_
  refine Y1 (Yv.loadBox rfl ag_49 (i := 1) rfl (E rfl rfl) rfl) ?_
  refine Y1 (Yv.lenSl rfl so_49 (B rfl) (E rfl rfl) len_code) ?_
  refine AWL.makeRow (n := f.code.length) (c := f.code.length) rfl rfl (B rfl) rfl el_104 (E rfl rfl) (E rfl rfl) (Nat.le_refl _) (by omega) (by unfold maxLen; omega) (fun A25 => ?_)
  refine Y1 (Yv.assign rfl eV) ?_
  refine nl ?_
  refine AW.rseq ?_
  refine Y1 (Yv.fieldBox rfl fo_51_2 eV) ?_
  refine Y1 (Yv.loadBox rfl ag_3 (i := 1) rfl (E rfl rfl) rfl) ?_
  refine Y1 (Yv.fieldBox rfl fo_51_3 eV) ?_
  refine Y1 (Yv.loadBox rfl ag_3 (i := 1) rfl (E rfl rfl) rfl) ?_
  refine Y1 (Yv.eqT (t' := .v (.int .i64 (W : Int))) (Yv.addN_i64 rfl (E rfl rfl) (E rfl rfl) (fun hg => by omega)) (by rw [show f.regs + f.slots = (W : Int) by omega])) ?_
  refine AWL.makeRowS (n := W) (c := W) rfl rfl (B rfl) rfl el_85 (E rfl rfl) (E rfl rfl) (Nat.le_refl _) (by omega) (by unfold maxLen; omega) (fun A31 hA31 => ?_)
  refine Y1 (Yv.assign rfl eV) ?_
  refine nl ?_
  refine AW.eqS (S' := [.map w8 (lmT (whL f.code)), .box b1 51 (fnCells f), .row A25 f.code.length f.code.length 85 1 (List.replicate f.code.length (T.v (.slice none 0 0))), .row A31 W W 4 1 ((List.replicate 0 true ++ List.replicate (W - 0) false).map bv)]) (by rw [← mk_nil, show (List.replicate 0 true ++ List.replicate (W - 0) false) = List.replicate W false from rfl, ← mk_false]; rfl) ?_
  refine AW.seq ?_
  refine AW.rseq ?_
  refine Y1 (Yv.assign rfl eV) ?_
  refine nl ?_
  refine AW.block ?_
  refine AW.loop (fun (j : Nat) => [(1, true, .v (.pointer (some ⟨b1, 0, none⟩))), (4, true, .v (.map (some w8))), (5, true, .v (.slice A25 f.code.length f.code.length)), (6, true, .v (.slice A31 W W)), (7, true, .v (.int .i64 (j : Int)))]) (fun (j : Nat) => [.map w8 (lmT (whL f.code)), .box b1 51 (fnCells f), .row A25 f.code.length f.code.length 85 1 (List.replicate f.code.length (T.v (.slice none 0 0))), .row A31 W W 4 1 ((List.replicate j true ++ List.replicate (W - j) false).map bv)]) (fun (j : Nat) => j ≤ f.params.toNat) (fun (j : Nat) => f.params.toNat - j) 0 ?_ ?_ ?_ ?_
  · exact Nat.zero_le _
  · exact (Sub.cons rfl rfl (Sub.cons rfl rfl (Sub.cons rfl rfl (Sub.cons rfl rfl (Sub.cons rfl rfl Sub.nil)))))
  · rfl
  ·
    intro j hinv
    refine AW.seq ?_
    refine AW.rseq ?_
    refine Y1 (Yv.move rfl eV) ?_
    refine Y1 (Yv.fieldBox rfl fo_51_1 eV) ?_
    refine Y1 (Yv.loadBox rfl ag_3 (i := 1) rfl (E rfl rfl) rfl) ?_
    refine Y1 (Yv.lss rfl eV eV) ?_
    refine nl ?_
    refine AW.cond rfl (fun h0t => ?_) (fun h0f => ?_)
    ·
      try replace h0t := of_decide_eq_true h0t
      have hjp : j < f.params.toNat := by omega
      refine AW.skip ?_
      refine AW.seq ?_
      refine AW.block ?_
      refine AW.region ?_
      refine Y1 (Yv.move rfl eV) ?_
      refine Y1 (Yv.move rfl eV) ?_
      refine Y1 (Yv.indexRow rfl ss_85 (i := 3) rfl (E rfl rfl) (E rfl rfl) (fun hg => ⟨rfl, by omega⟩)) ?_
      refine AWL.storeEp1 (i := 3) rfl rfl rfl ag_4 rfl (E rfl rfl) (E rfl rfl) rfl rfl (by simp; omega) ?_
      refine nl ?_
      refine AW.region ?_
      refine Y1 (Yv.move rfl eV) ?_
      refine Y1 (Yv.addN_i64 rfl (E rfl rfl) (E rfl rfl) (fun hg => by omega)) ?_
      refine Y1 (Yv.assign rfl eV) ?_
      refine nl ?_
      refine ⟨j + 1, by omega, by omega, (Sub.cons rfl rfl (Sub.cons rfl rfl (Sub.cons rfl rfl (Sub.cons rfl rfl (Sub.cons rfl (by simp) Sub.nil))))), ?_⟩
      rw [← first_set (show j < W by omega), Nat.mul_one]
      rfl
    ·
      try replace h0f := of_decide_eq_false h0f
      obtain rfl : j = f.params.toNat := by omega
      refine AW.exit ?_
      refine AW.rseq ?_
      refine Y1 (Yv.move rfl eV) ?_
      refine Y1 (Yv.move rfl eV) ?_
      refine Y1 (Yv.indexRow rfl ss_104 (i := 2) rfl (E rfl rfl) (E rfl rfl) (fun hg => ⟨rfl, by omega⟩)) ?_
      refine AWL.storeEp1 (i := 2) rfl rfl rfl ag_85 rfl (E rfl rfl) (E rfl rfl) rfl rfl (by simp; omega) ?_
      refine nl ?_
      refine AW.rowNils 4 1 (f.code.length - 1) ?_
      refine AW.eqS (S' := (.map w8 (lmT (whL f.code)) :: .box b1 51 (fnCells f) :: .row A25 f.code.length f.code.length 85 1 ((sls0 A31 W f.code.length (firstF R W f.params.toNat)).map slCell) :: (sls0 A31 W f.code.length (firstF R W f.params.toNat)).map slRow)) (by
        rw [← sls0_cells hf6 hfl, sls0_rows hfl]
        rfl) ?_
      have hfi0 := sls0_fi (f := f) (A := A31) (R := R) (W := W) hf6 (by omega)
      refine AW.seq ?_
      refine AW.rseq ?_
      refine Y1 (Yv.assign rfl eV) ?_
      refine nl ?_
      refine AW.block ?_
      refine AW.loop2 (fun (sls : List Sl) (more : Bool) => [(1, true, .v (.pointer (some ⟨b1, 0, none⟩))), (4, true, .v (.map (some w8))), (5, true, .v (.slice A25 f.code.length f.code.length)), (8, true, bv more)]) (fun (sls : List Sl) (more : Bool) => (.map w8 (lmT (whL f.code)) :: .box b1 51 (fnCells f) :: .row A25 f.code.length f.code.length 85 1 ((sls).map slCell) :: (sls).map slRow)) (fun (sls : List Sl) (more : Bool) => sls.length = f.code.length ∧ (∀ s ∈ sls, slOk s) ∧ FI f R W (famS sls) (famS sls) false ∧ (more = false → Sol f R W (famS sls))) (fun (sls : List Sl) (more : Bool) => 2 * pot W (famS sls) + more.toNat) ((sls0 A31 W f.code.length (firstF R W f.params.toNat))) true ?_ ?_ ?_ ?_
      · exact ⟨sls0_len hf6, sls0_ok hA31, hfi0, fun h => by cases h⟩
      · exact (Sub.cons rfl rfl (Sub.cons rfl rfl (Sub.cons rfl rfl (Sub.cons rfl rfl Sub.nil))))
      · rfl
      ·
        intro sls more hinv
        obtain ⟨hl0, hok0, hfi, hsol⟩ := hinv
        refine AW.seq ?_
        refine AW.rseq ?_
        refine Y1 (Yv.move rfl eV) ?_
        refine nl ?_
        refine AW.cond rfl (fun h1t => ?_) (fun h1f => ?_)
        ·
          try replace h1t := of_decide_eq_true h1t
          refine AW.skip ?_
          refine AW.block ?_
          refine AW.rseq ?_
          refine Y1 (Yv.assign rfl eV) ?_
          refine nl ?_
          refine AW.rseq ?_
          refine Y1 (Yv.assign rfl eV) ?_
          refine nl ?_
          refine AW.block ?_
          refine AW.loop3 (fun (k : Nat) (sls1 : List Sl) (more1 : Bool) => [(1, true, .v (.pointer (some ⟨b1, 0, none⟩))), (4, true, .v (.map (some w8))), (5, true, .v (.slice A25 f.code.length f.code.length)), (8, true, bv more1), (9, true, .v (.int .i64 (k : Int)))]) (fun (k : Nat) (sls1 : List Sl) (more1 : Bool) => (.map w8 (lmT (whL f.code)) :: .box b1 51 (fnCells f) :: .row A25 f.code.length f.code.length 85 1 ((sls1).map slCell) :: (sls1).map slRow)) (fun (k : Nat) (sls1 : List Sl) (more1 : Bool) => k ≤ f.code.length ∧ sls1.length = f.code.length ∧ (∀ s ∈ sls1, slOk s) ∧ FI f R W (famS sls) (famS sls1) more1 ∧ (more1 = false → ∀ q, q < k → stab f R (famS sls) q)) (fun (k : Nat) (sls1 : List Sl) (more1 : Bool) => f.code.length - k) 0 sls false ?_ ?_ ?_ ?_
          · exact ⟨Nat.zero_le _, hl0, hok0, hfi, fun _ q hq => absurd hq (Nat.not_lt_zero q)⟩
          · exact (Sub.cons rfl rfl (Sub.cons rfl rfl (Sub.cons rfl rfl (Sub.cons rfl rfl (Sub.cons rfl rfl Sub.nil)))))
          · rfl
          ·
            intro k sls1 more1 hin2
            obtain ⟨hk, hl1, hok1, hfi1, hst1⟩ := hin2
            refine AW.seq ?_
            refine AW.rseq ?_
            refine Y1 (Yv.move rfl eV) ?_
            refine Y1 (Yv.fieldBox rfl fo_51_4 eV) ?_
            refine Y1 (Yv.loadBox rfl ag_49 (i := 1) rfl (E rfl rfl) rfl) ?_
            refine Y1 (Yv.lenSl rfl so_49 (B rfl) (E rfl rfl) len_code) ?_
            refine Y1 (Yv.lss rfl eV eV) ?_
            refine nl ?_
            refine AW.cond rfl (fun h2t => ?_) (fun h2f => ?_)
            ·
              try replace h2t := of_decide_eq_true h2t
              have hk2 : k < f.code.length := by omega
              refine AW.skip ?_
              refine AW.seq ?_
              refine AW.block ?_
              refine AW.seq ?_
              refine AW.rseq ?_
              refine Y1 (Yv.move rfl eV) ?_
              refine Y1 (Yv.move rfl eV) ?_
              refine Y1 (Yv.indexRow rfl ss_104 (i := 2) rfl (E rfl rfl) (E rfl rfl) (fun hg => ⟨rfl, by omega⟩)) ?_
              refine Y1 (Yv.loadEp rfl ag_85 (i := 2) rfl (E rfl rfl) (fun hg => sl_cell (by first | omega | assumption))) ?_
              refine Y1 (Yv.eqNilV rfl so_85 (E rfl rfl)) ?_
              refine nl ?_
              refine AW.cond rfl (fun h3t => ?_) (fun h3f => ?_)
              ·
                try replace h3t := of_decide_eq_true h3t
                have hvn := sl_none (hok1 _ (getD_mem (show k < sls1.length by omega))) h3t
                refine AW.exit ?_
                refine AW.region ?_
                refine Y1 (Yv.move rfl eV) ?_
                refine Y1 (Yv.addN_i64 rfl (E rfl rfl) (E rfl rfl) (fun hg => by omega)) ?_
                refine Y1 (Yv.assign rfl eV) ?_
                refine nl ?_
                refine ⟨k + 1, sls1, more1, ⟨by omega, hl1, hok1, hfi1, fun hm q hq => ?_⟩, by omega, (Sub.cons rfl rfl (Sub.cons rfl rfl (Sub.cons rfl rfl (Sub.cons rfl rfl (Sub.cons rfl (by simp) Sub.nil))))), rfl⟩
                rcases Nat.lt_or_ge q k with h | h
                · exact hst1 hm q h
                · obtain rfl : q = k := by omega
                  intro a ha
                  rw [← hfi1.eq hm, fam_at (show q < sls1.length by omega), hvn] at ha
                  cases ha
              ·
                try replace h3f := of_decide_eq_false h3f
                have hvs := sl_some (hok1 _ (getD_mem (show k < sls1.length by omega))) h3f
                have hlk : (sls1.getD k default).bits.length = W := hfi1.fin.bits k _ (by rw [fam_at (show k < sls1.length by omega)]; exact hvs)
                have hob : (behindF R (f.code.getD k default) (sls1.getD k default).bits).length = W := by rw [behind_len (by omega), hlk]
                refine AW.skip ?_
                refine AW.rseqP rfl ?_
                refine AWP.phase [true, true, true, true, true, true, true, true, true, true] 2 rfl (by kernel_rfl) (by kernel_rfl) ?_
                refine AWQ.y rfl rfl (B rfl) (Yv.loadBoxA rfl ag_51 (i := 1) rfl (E rfl rfl) rfl rfl) ?_
                refine AWQ.y rfl rfl (B rfl) (Yv.fieldBox rfl fo_51_4 (E rfl rfl)) ?_
                refine AWQ.y rfl rfl (B rfl) (Yv.loadBox rfl ag_49 (i := 1) rfl (E rfl rfl) rfl) ?_
                refine AWQ.y rfl rfl (B rfl) (Yv.move rfl (E rfl rfl)) ?_
                refine AWQ.y rfl rfl (B rfl) (Yv.indexSl rfl ss_49 (B rfl) (E rfl rfl) (E rfl rfl) (fun hg => ⟨rfl, (by first | omega | (simp only [len_code, len_funs, len_args, len_data, len_bits]; omega))⟩)) ?_
                refine AWQ.y rfl rfl (B rfl) (Yv.loadRpA rfl ag_58 (E rfl rfl) (fun hg => ins_cells (by omega))) ?_
                refine AWQ.y rfl rfl (B rfl) (Yv.move rfl (E rfl rfl)) ?_
                refine AWQ.y rfl rfl (B rfl) (Yv.move rfl (E rfl rfl)) ?_
                refine AWQ.y rfl rfl (B rfl) (Yv.indexRow rfl ss_104 (i := 2) rfl (E rfl rfl) (E rfl rfl) (fun hg => ⟨rfl, by omega⟩)) ?_
                refine AWQ.y rfl rfl (B rfl) (Yv.loadEp rfl ag_85 (i := 2) rfl (E rfl rfl) (fun hg => sl_cell (by first | omega | assumption))) ?_
                refine AWQ.nil ?_
                refine AWP.one (i := 10) (by kernel_rfl) rfl ?_
                refine AWL.callF rfl rfl (B rfl) rfl ce_40 (E rfl rfl) (evsC (E rfl rfl) (evsC (E rfl rfl) (evsC (E rfl rfl) evs0))) (F1 := (.map w8 (lmT (whL f.code)) :: .box b1 51 (fnCells f) :: .row A25 f.code.length f.code.length 85 1 (sls1.map slCell) :: (sls1.take k).map slRow)) (S1 := [slRow (sls1.getD k default)]) (F2 := ((sls1.drop (k + 1)).map slRow)) (by show _ :: _ :: _ :: _ = _; rw [sl_split (show k < sls1.length by omega)]; rfl) (behind40 p f (cntL f.code) (f.code.getD k default) (sls1.getD k default).A (sls1.getD k default).bits.length (sls1.getD k default).c (sls1.getD k default).bits R hRi hf (hf.ins _ (getD_mem hk2)) (by omega) rfl) ?_
                rintro t67 S67 ⟨rfl, rfl⟩
                refine nl ?_
                refine AWP.one (i := 11) (by kernel_rfl) rfl ?_
                refine Y1 (Yv.assign rfl eV) ?_
                refine nl ?_
                refine AWP.done (by kernel_rfl) ?_
                refine AW.eqS (S' := (.map w8 (lmT (whL f.code)) :: .box b1 51 (fnCells f) :: .row A25 f.code.length f.code.length 85 1 ((sls1).map slCell) :: (sls1).map slRow)) (by rw [sl_split (show k < sls1.length by omega)]; rfl) ?_
                refine AW.rseq ?_
                refine Y1 (Yv.loadBoxA rfl ag_51 (i := 1) rfl (E rfl rfl) rfl rfl) ?_
                refine Y1 (Yv.move rfl eV) ?_
                refine Y1 (Yv.move rfl eV) ?_
                refine AWL.callF rfl rfl (B rfl) rfl ce_41 (E rfl rfl) (evsC (E rfl rfl) (evsC (E rfl rfl) (evsC (E rfl rfl) evs0))) (F1 := []) (S1 := [.map w8 (lmT (whL f.code))]) (F2 := (.box b1 51 (fnCells f) :: .row A25 f.code.length f.code.length 85 1 (sls1.map slCell) :: sls1.map slRow)) rfl (next41 f (whL f.code) w8 k hk2 hfc) ?_
                rintro t71 S71 ⟨rfl, rfl⟩
                refine Y1 (Yv.assign rfl eV) ?_
                refine nl ?_
                refine AW.eqS (S' := (.map w8 (lmT (whL f.code)) :: .box b1 51 (fnCells f) :: .row A25 f.code.length f.code.length 85 1 ((sls1).map slCell) :: (sls1).map slRow)) rfl ?_
                refine AW.rseq ?_
                refine Y1 (Yv.assign rfl eV) ?_
                refine nl ?_
                refine AW.block ?_
                refine AW.loop3 (fun (j : Nat) (sls2 : List Sl) (more2 : Bool) => [(1, true, .v (.pointer (some ⟨b1, 0, none⟩))), (4, true, .v (.map (some w8))), (5, true, .v (.slice A25 f.code.length f.code.length)), (8, true, bv more2), (9, true, .v (.int .i64 (k : Int))), (10, true, .sl 1 ((behindF R (f.code.getD k default) (sls1.getD k default).bits).map bv)), (11, true, .sl 1 ((nextF (whL f.code) (f.code.getD k default) k).map zi)), (12, true, .v (.int .i64 (j : Int)))]) (fun (j : Nat) (sls2 : List Sl) (more2 : Bool) => (.map w8 (lmT (whL f.code)) :: .box b1 51 (fnCells f) :: .row A25 f.code.length f.code.length 85 1 ((sls2).map slCell) :: (sls2).map slRow)) (fun (j : Nat) (sls2 : List Sl) (more2 : Bool) => j ≤ (nextF (whL f.code) (f.code.getD k default) k).length ∧ sls2.length = f.code.length ∧ (∀ s ∈ sls2, slOk s) ∧ FI f R W (famS sls) (famS sls2) more2 ∧ (more2 = false → more1 = false ∧ True ∧ ∀ q, q < j → leO (famAt (famS sls) ((nextF (whL f.code) (f.code.getD k default) k).getD q default).toNat) (some (behindF R (f.code.getD k default) (sls1.getD k default).bits)))) (fun (j : Nat) (sls2 : List Sl) (more2 : Bool) => (nextF (whL f.code) (f.code.getD k default) k).length - j) 0 sls1 more1 ?_ ?_ ?_ ?_
                · exact ⟨Nat.zero_le _, hl1, hok1, hfi1, fun h => ⟨h, trivial, fun q hq => absurd hq (Nat.not_lt_zero q)⟩⟩
                · exact (Sub.cons rfl rfl (Sub.cons rfl rfl (Sub.cons rfl rfl (Sub.cons rfl rfl (Sub.cons rfl rfl (Sub.cons rfl rfl (Sub.cons rfl rfl (Sub.cons rfl rfl Sub.nil))))))))
                · rfl
                ·
                  intro j sls2 more2 hin3
                  obtain ⟨hj, hl2, hok2, hfi2, hst2⟩ := hin3
                  refine AW.seq ?_
                  refine AW.rseq ?_
                  refine Y1 (Yv.move rfl eV) ?_
                  refine Y1 (Yv.move rfl eV) ?_
                  refine Y1 (Yv.lenSl rfl so_47 (B rfl) (E rfl rfl) len_args) ?_
                  refine Y1 (Yv.lss rfl eV eV) ?_
                  refine nl ?_
                  refine AW.cond rfl (fun h4t => ?_) (fun h4f => ?_)
                  ·
                    try replace h4t := of_decide_eq_true h4t
                    have hls := nx_len (whL f.code) (f.code.getD k default) k
                    have hj2 : j < (nextF (whL f.code) (f.code.getD k default) k).length := by omega
                    have hlm := getD_mem hj2
                    have hlj := next_in hf hk2 _ hlm
                    have hL : ((nextF (whL f.code) (f.code.getD k default) k).getD j default).toNat < sls2.length := by omega
                    refine AW.skip ?_
                    refine AW.seq ?_
                    refine AW.block ?_
                    refine AW.seq ?_
                    refine AW.rseq ?_
                    refine Y1 (Yv.move rfl eV) ?_
                    refine Y1 (Yv.move rfl eV) ?_
                    refine Y1 (Yv.move rfl eV) ?_
                    refine Y1 (Yv.indexSl rfl ss_47 (B rfl) (E rfl rfl) (E rfl rfl) (fun hg => ⟨rfl, (by first | omega | (simp only [len_code, len_funs, len_args, len_data, len_bits]; omega))⟩)) ?_
                    refine Y1 (Yv.loadRp rfl ag_3 (E rfl rfl) (fun hg => arg_at (by omega))) ?_
                    refine Y1 (Yv.indexRow (j := ((nextF (whL f.code) (f.code.getD k default) k).getD j default).toNat) rfl ss_104 (i := 2) rfl (E rfl rfl) (E rfl rfl) (fun hg => ⟨(Int.toNat_of_nonneg hlj.1).symm, by rw [← hl2]; exact hL⟩)) ?_
                    refine Y1 (Yv.loadEp rfl ag_85 (i := 2) rfl (E rfl rfl) (fun hg => sl_cell (by first | omega | assumption))) ?_
                    refine Y1 (Yv.eqNilV rfl so_85 (E rfl rfl)) ?_
                    refine nl ?_
                    refine AW.cond rfl (fun h5t => ?_) (fun h5f => ?_)
                    ·
                      try replace h5t := of_decide_eq_true h5t
                      have hv2n := sl_none (hok2 _ (getD_mem hL)) h5t
                      have hak : ∀ Y, Sol f R W Y → leO (famAt Y k) (some (sls1.getD k default).bits) := fun Y hY => by
                        have h := hfi1.ab Y hY k
                        rw [fam_at (show k < sls1.length by omega), hvs] at h
                        exact h
                      refine AW.rseqP rfl ?_
                      refine AWP.take (i := 0) rfl (by kernel_rfl) (by kernel_rfl) (by kernel_rfl) rfl rfl (B rfl) (freeMove rfl (E rfl rfl)) ?_
                      refine AWP.take (i := 1) rfl (by kernel_rfl) (by kernel_rfl) (by kernel_rfl) rfl rfl (B rfl) (freeMove rfl (E rfl rfl)) ?_
                      refine AWP.take (i := 2) rfl (by kernel_rfl) (by kernel_rfl) (by kernel_rfl) rfl rfl (B rfl) (freeMove rfl (E rfl rfl)) ?_
                      refine AWP.take (i := 3) rfl (by kernel_rfl) (by kernel_rfl) (by kernel_rfl) rfl rfl (B rfl) (freeIdxSl (j := j) rfl ss_47 (by decide) (E rfl rfl) (E rfl rfl) ⟨rfl, by rw [len_args]; omega⟩) ?_
                      refine AWP.take (i := 6) rfl (by kernel_rfl) (by kernel_rfl) (by kernel_rfl) rfl rfl (B rfl) (freeMove rfl (E rfl rfl)) ?_
                      refine AWP.two (i := 4) (j := 5) (by kernel_rfl) rfl rfl ?_ ?_
                      ·
                        refine Y1 (Yv.loadRp rfl ag_3 (E rfl rfl) (fun hg => arg_at (by omega))) ?_
                        refine nl ?_
                        refine AWP.one (i := 5) (by kernel_rfl) rfl ?_
                        refine AWL.buildSliceRowS rfl rfl (B rfl) rfl el_85 (B rfl) rfl evs0 (Nat.le_of_ble_eq_true rfl) rfl rfl (fun A91 hA91 => ?_)
                        refine nl ?_
                        refine AWP.one (i := 7) (by kernel_rfl) rfl ?_
                        refine AWL.perm (List.perm_append_singleton _ _).symm ?_
                        refine AWL.appendRowS (i := 0) rfl rfl (B rfl) rfl el_85 (B rfl) rfl (E rfl rfl) (SrcT.sl so_85 (B rfl) (E rfl rfl) len_bits) (by unfold maxLen; omega) (by omega) hA91 (fun A93 c93 hA93 => ?_)
                        rw [Nat.zero_add]
                        refine AWL.putRow (F := [.map w8 (lmT (whL f.code)), .box b1 51 (fnCells f), .row A25 f.code.length f.code.length 85 1 (sls2.map slCell)]) (L := ((nextF (whL f.code) (f.code.getD k default) k).getD j default).toNat) (by rw [List.length_map]; exact hL) ?_
                        refine nl ?_
                        refine AWP.one (i := 8) (by kernel_rfl) rfl ?_
                        refine Y1 (Yv.indexRow (j := ((nextF (whL f.code) (f.code.getD k default) k).getD j default).toNat) rfl ss_104 (i := 2) rfl (E rfl rfl) (E rfl rfl) (fun hg => ⟨(Int.toNat_of_nonneg hlj.1).symm, by rw [← hl2]; exact hL⟩)) ?_
                        refine nl ?_
                        refine AWP.one (i := 9) (by kernel_rfl) rfl ?_
                        refine AWL.storeEp1 (i := 2) rfl rfl rfl ag_85 rfl (E rfl rfl) (E rfl rfl) rfl rfl (by rw [List.length_map, Nat.mul_one]; exact hL) ?_
                        refine nl ?_
                        refine AWP.done (by kernel_rfl) ?_
                        refine AW.rseq ?_
                        refine Y1 (Yv.assign rfl eV) ?_
                        refine nl ?_
                        refine AW.exit ?_
                        refine AW.region ?_
                        refine Y1 (Yv.move rfl eV) ?_
                        refine Y1 (Yv.addN_i64 rfl (E rfl rfl) (E rfl rfl) (fun hg => by omega)) ?_
                        refine Y1 (Yv.assign rfl eV) ?_
                        refine nl ?_
                        have hm2 := hfi2.meet hRW hk2 hlk hak hlm hlj.2
                        rw [← (slN_fam (A := A93) (c := c93) hL hv2n).1, (slN_fam (A := A93) (c := c93) hL hv2n).2, Bool.or_true] at hm2
                        refine ⟨j + 1, sls2.set ((nextF (whL f.code) (f.code.getD k default) k).getD j default).toNat ⟨A93, c93, some (behindF R (f.code.getD k default) (sls1.getD k default).bits)⟩, true, ⟨by omega, by rw [List.length_set]; exact hl2, slN_ok hok2 hA93, hm2, fun h => by cases h⟩, by omega, (Sub.cons rfl rfl (Sub.cons rfl rfl (Sub.cons rfl rfl (Sub.cons rfl rfl (Sub.cons rfl rfl (Sub.cons rfl rfl (Sub.cons rfl rfl (Sub.cons rfl (by simp) Sub.nil)))))))), ?_⟩
                        rw [List.map_set, List.map_set, Nat.mul_one]
                        rfl
                      ·
                        refine AWL.buildSliceRowS rfl rfl (B rfl) rfl el_85 (B rfl) rfl evs0 (Nat.le_of_ble_eq_true rfl) rfl rfl (fun A91 hA91 => ?_)
                        refine nl ?_
                        refine AWP.two (i := 4) (j := 7) (by kernel_rfl) rfl rfl ?_ ?_
                        ·
                          refine Y1 (Yv.loadRp rfl ag_3 (E rfl rfl) (fun hg => arg_at (by omega))) ?_
                          refine nl ?_
                          refine AWP.one (i := 7) (by kernel_rfl) rfl ?_
                          refine AWL.perm (List.perm_append_singleton _ _).symm ?_
                          refine AWL.appendRowS (i := 0) rfl rfl (B rfl) rfl el_85 (B rfl) rfl (E rfl rfl) (SrcT.sl so_85 (B rfl) (E rfl rfl) len_bits) (by unfold maxLen; omega) (by omega) hA91 (fun A93 c93 hA93 => ?_)
                          rw [Nat.zero_add]
                          refine AWL.putRow (F := [.map w8 (lmT (whL f.code)), .box b1 51 (fnCells f), .row A25 f.code.length f.code.length 85 1 (sls2.map slCell)]) (L := ((nextF (whL f.code) (f.code.getD k default) k).getD j default).toNat) (by rw [List.length_map]; exact hL) ?_
                          refine nl ?_
                          refine AWP.one (i := 8) (by kernel_rfl) rfl ?_
                          refine Y1 (Yv.indexRow (j := ((nextF (whL f.code) (f.code.getD k default) k).getD j default).toNat) rfl ss_104 (i := 2) rfl (E rfl rfl) (E rfl rfl) (fun hg => ⟨(Int.toNat_of_nonneg hlj.1).symm, by rw [← hl2]; exact hL⟩)) ?_
                          refine nl ?_
                          refine AWP.one (i := 9) (by kernel_rfl) rfl ?_
                          refine AWL.storeEp1 (i := 2) rfl rfl rfl ag_85 rfl (E rfl rfl) (E rfl rfl) rfl rfl (by rw [List.length_map, Nat.mul_one]; exact hL) ?_
                          refine nl ?_
                          refine AWP.done (by kernel_rfl) ?_
                          refine AW.rseq ?_
                          refine Y1 (Yv.assign rfl eV) ?_
                          refine nl ?_
                          refine AW.exit ?_
                          refine AW.region ?_
                          refine Y1 (Yv.move rfl eV) ?_
                          refine Y1 (Yv.addN_i64 rfl (E rfl rfl) (E rfl rfl) (fun hg => by omega)) ?_
                          refine Y1 (Yv.assign rfl eV) ?_
                          refine nl ?_
                          have hm2 := hfi2.meet hRW hk2 hlk hak hlm hlj.2
                          rw [← (slN_fam (A := A93) (c := c93) hL hv2n).1, (slN_fam (A := A93) (c := c93) hL hv2n).2, Bool.or_true] at hm2
                          refine ⟨j + 1, sls2.set ((nextF (whL f.code) (f.code.getD k default) k).getD j default).toNat ⟨A93, c93, some (behindF R (f.code.getD k default) (sls1.getD k default).bits)⟩, true, ⟨by omega, by rw [List.length_set]; exact hl2, slN_ok hok2 hA93, hm2, fun h => by cases h⟩, by omega, (Sub.cons rfl rfl (Sub.cons rfl rfl (Sub.cons rfl rfl (Sub.cons rfl rfl (Sub.cons rfl rfl (Sub.cons rfl rfl (Sub.cons rfl rfl (Sub.cons rfl (by simp) Sub.nil)))))))), ?_⟩
                          rw [List.map_set, List.map_set, Nat.mul_one]
                          rfl
                        ·
                          refine AWL.perm (List.perm_append_singleton _ _).symm ?_
                          refine AWL.appendRowS (i := 0) rfl rfl (B rfl) rfl el_85 (B rfl) rfl (E rfl rfl) (SrcT.sl so_85 (B rfl) (E rfl rfl) len_bits) (by unfold maxLen; omega) (by omega) hA91 (fun A93 c93 hA93 => ?_)
                          rw [Nat.zero_add]
                          refine AWL.putRow (F := [.map w8 (lmT (whL f.code)), .box b1 51 (fnCells f), .row A25 f.code.length f.code.length 85 1 (sls2.map slCell)]) (L := ((nextF (whL f.code) (f.code.getD k default) k).getD j default).toNat) (by rw [List.length_map]; exact hL) ?_
                          refine nl ?_
                          refine AWP.one (i := 4) (by kernel_rfl) rfl ?_
                          refine Y1 (Yv.loadRp rfl ag_3 (E rfl rfl) (fun hg => arg_at (by omega))) ?_
                          refine nl ?_
                          refine AWP.one (i := 8) (by kernel_rfl) rfl ?_
                          refine Y1 (Yv.indexRow (j := ((nextF (whL f.code) (f.code.getD k default) k).getD j default).toNat) rfl ss_104 (i := 2) rfl (E rfl rfl) (E rfl rfl) (fun hg => ⟨(Int.toNat_of_nonneg hlj.1).symm, by rw [← hl2]; exact hL⟩)) ?_
                          refine nl ?_
                          refine AWP.one (i := 9) (by kernel_rfl) rfl ?_
                          refine AWL.storeEp1 (i := 2) rfl rfl rfl ag_85 rfl (E rfl rfl) (E rfl rfl) rfl rfl (by rw [List.length_map, Nat.mul_one]; exact hL) ?_
                          refine nl ?_
                          refine AWP.done (by kernel_rfl) ?_
                          refine AW.rseq ?_
                          refine Y1 (Yv.assign rfl eV) ?_
                          refine nl ?_
                          refine AW.exit ?_
                          refine AW.region ?_
                          refine Y1 (Yv.move rfl eV) ?_
                          refine Y1 (Yv.addN_i64 rfl (E rfl rfl) (E rfl rfl) (fun hg => by omega)) ?_
                          refine Y1 (Yv.assign rfl eV) ?_
                          refine nl ?_
                          have hm2 := hfi2.meet hRW hk2 hlk hak hlm hlj.2
                          rw [← (slN_fam (A := A93) (c := c93) hL hv2n).1, (slN_fam (A := A93) (c := c93) hL hv2n).2, Bool.or_true] at hm2
                          refine ⟨j + 1, sls2.set ((nextF (whL f.code) (f.code.getD k default) k).getD j default).toNat ⟨A93, c93, some (behindF R (f.code.getD k default) (sls1.getD k default).bits)⟩, true, ⟨by omega, by rw [List.length_set]; exact hl2, slN_ok hok2 hA93, hm2, fun h => by cases h⟩, by omega, (Sub.cons rfl rfl (Sub.cons rfl rfl (Sub.cons rfl rfl (Sub.cons rfl rfl (Sub.cons rfl rfl (Sub.cons rfl rfl (Sub.cons rfl rfl (Sub.cons rfl (by simp) Sub.nil)))))))), ?_⟩
                          rw [List.map_set, List.map_set, Nat.mul_one]
                          rfl
                    ·
                      try replace h5f := of_decide_eq_false h5f
                      have hv2 := sl_some (hok2 _ (getD_mem hL)) h5f
                      have hlb : (sls2.getD ((nextF (whL f.code) (f.code.getD k default) k).getD j default).toNat default).bits.length = W := hfi2.fin.bits _ _ (by rw [fam_at hL]; exact hv2)
                      have hlo : (sls2.getD ((nextF (whL f.code) (f.code.getD k default) k).getD j default).toNat default).bits.length = (behindF R (f.code.getD k default) (sls1.getD k default).bits).length := by omega
                      have hak : ∀ Y, Sol f R W Y → leO (famAt Y k) (some (sls1.getD k default).bits) := fun Y hY => by
                        have h := hfi1.ab Y hY k
                        rw [fam_at (show k < sls1.length by omega), hvs] at h
                        exact h
                      refine AW.skip ?_
                      refine AW.rseq ?_
                      refine Y1 (Yv.assign rfl eV) ?_
                      refine nl ?_
                      refine AW.block ?_
                      refine AW.loop (fun (n : Nat) => [(1, true, .v (.pointer (some ⟨b1, 0, none⟩))), (4, true, .v (.map (some w8))), (5, true, .v (.slice A25 f.code.length f.code.length)), (8, true, bv (more2 || !decide ((mixB (sls2.getD ((nextF (whL f.code) (f.code.getD k default) k).getD j default).toNat default).bits (behindF R (f.code.getD k default) (sls1.getD k default).bits) n) = (sls2.getD ((nextF (whL f.code) (f.code.getD k default) k).getD j default).toNat default).bits))), (9, true, .v (.int .i64 (k : Int))), (10, true, .sl 1 ((behindF R (f.code.getD k default) (sls1.getD k default).bits).map bv)), (11, true, .sl 1 ((nextF (whL f.code) (f.code.getD k default) k).map zi)), (12, true, .v (.int .i64 (j : Int))), (13, true, .v (.int .i64 (n : Int)))]) (fun (n : Nat) => (.map w8 (lmT (whL f.code)) :: .box b1 51 (fnCells f) :: .row A25 f.code.length f.code.length 85 1 ((sls2).map slCell) :: (slM sls2 ((nextF (whL f.code) (f.code.getD k default) k).getD j default).toNat (behindF R (f.code.getD k default) (sls1.getD k default).bits) n).map slRow)) (fun (n : Nat) => n ≤ W) (fun (n : Nat) => W - n) 0 ?_ ?_ ?_ ?_
                      · exact Nat.zero_le _
                      · exact (Sub.cons rfl rfl (Sub.cons rfl rfl (Sub.cons rfl rfl (Sub.cons rfl (by rw [mix_0]; simp) (Sub.cons rfl rfl (Sub.cons rfl rfl (Sub.cons rfl rfl (Sub.cons rfl rfl (Sub.cons rfl rfl Sub.nil)))))))))
                      · rw [slM_0 hL hv2]
                      ·
                        intro n hinv
                        refine AW.seq ?_
                        refine AW.rseq ?_
                        refine Y1 (Yv.move rfl eV) ?_
                        refine Y1 (Yv.move rfl eV) ?_
                        refine Y1 (Yv.lenSl rfl so_85 (B rfl) (E rfl rfl) len_bits) ?_
                        refine Y1 (Yv.lss rfl eV eV) ?_
                        refine nl ?_
                        refine AW.cond rfl (fun h6t => ?_) (fun h6f => ?_)
                        ·
                          try replace h6t := of_decide_eq_true h6t
                          have hn1 : n < W := by omega
                          have hn2 : n < (sls2.getD ((nextF (whL f.code) (f.code.getD k default) k).getD j default).toNat default).bits.length := by omega
                          refine AW.skip ?_
                          refine AW.seq ?_
                          refine AW.block ?_
                          refine AW.rseq ?_
                          refine Y1 (Yv.move rfl eV) ?_
                          refine Y1 (Yv.move rfl eV) ?_
                          refine Y1 (Yv.move rfl eV) ?_
                          refine Y1 (Yv.indexSl rfl ss_47 (B rfl) (E rfl rfl) (E rfl rfl) (fun hg => ⟨rfl, (by first | omega | (simp only [len_code, len_funs, len_args, len_data, len_bits]; omega))⟩)) ?_
                          refine Y1 (Yv.loadRp rfl ag_3 (E rfl rfl) (fun hg => arg_at (by omega))) ?_
                          refine Y1 (Yv.indexRow (j := ((nextF (whL f.code) (f.code.getD k default) k).getD j default).toNat) rfl ss_104 (i := 2) rfl (E rfl rfl) (E rfl rfl) (fun hg => ⟨(Int.toNat_of_nonneg hlj.1).symm, by rw [← hl2]; exact hL⟩)) ?_
                          refine Y1 (Yv.loadEp rfl ag_85 (i := 2) rfl (E rfl rfl) (fun hg => sl_cell (by first | omega | assumption))) ?_
                          refine Y1 (Yv.move rfl eV) ?_
                          refine Y1 (Yv.indexRow (j := n) rfl ss_85 (i := ((nextF (whL f.code) (f.code.getD k default) k).getD j default).toNat + 3) (slM_row hL hlo) (E rfl rfl) (E rfl rfl) (fun hg => ⟨rfl, by omega⟩)) ?_
                          refine Y1 (Yv.loadEp rfl ag_4 (i := ((nextF (whL f.code) (f.code.getD k default) k).getD j default).toNat + 3) (slM_row hL hlo) (E rfl rfl) (fun hg => bit_at (by rw [mix_len hlo]; omega))) ?_
                          refine Y1 (Yv.move rfl eV) ?_
                          refine AWL.ygT rfl rfl rfl rfl (B rfl) (Yv.move rfl (E rfl rfl)) ?_
                          refine AWL.ygT rfl rfl rfl rfl (B rfl) (Yv.move rfl (E rfl rfl)) ?_
                          refine AWL.ygT rfl rfl rfl rfl (B rfl) (Yv.indexSl rfl ss_85 (B rfl) (Eg rfl rfl id) (Eg rfl rfl id) (fun hg => ⟨rfl, (by first | omega | (simp only [len_code, len_funs, len_args, len_data, len_bits]; omega) | (simp only [len_code, len_funs, len_args, len_data, len_bits]; simp only [Bool.and_eq_true, Bool.or_eq_false_iff, Bool.not_eq_true', Bool.not_eq_false', decide_eq_true_eq, decide_eq_false_iff_not] at hg; omega))⟩)) ?_
                          refine AWL.ygT rfl rfl rfl rfl (B rfl) (Yv.loadRp rfl ag_4 (Eg rfl rfl id) (fun hg => bit_at (by first | omega | (simp only [Bool.or_eq_true, Bool.and_eq_true, Bool.or_eq_false_iff, Bool.and_eq_false_iff, Bool.not_eq_true', Bool.not_eq_false', decide_eq_true_eq, decide_eq_false_iff_not, Decidable.not_not] at hg; omega)))) ?_
                          refine AWL.ygT rfl rfl rfl rfl (B rfl) (Yv.not rfl (Eg rfl rfl id)) ?_
                          refine Y1 (Yv.pickAnd rfl (E rfl rfl) (Eg rfl rfl id)) ?_
                          refine nl ?_
                          refine AW.cond rfl (fun h7t => ?_) (fun h7f => ?_)
                          ·
                            try replace h7t := of_decide_eq_true h7t
                            rw [mix_at hlo (Nat.le_refl _)] at h7t
                            refine AW.rseq ?_
                            refine Y1 (Yv.move rfl eV) ?_
                            refine Y1 (Yv.move rfl eV) ?_
                            refine Y1 (Yv.move rfl eV) ?_
                            refine Y1 (Yv.indexSl rfl ss_47 (B rfl) (E rfl rfl) (E rfl rfl) (fun hg => ⟨rfl, (by first | omega | (simp only [len_code, len_funs, len_args, len_data, len_bits]; omega))⟩)) ?_
                            refine Y1 (Yv.loadRp rfl ag_3 (E rfl rfl) (fun hg => arg_at (by omega))) ?_
                            refine Y1 (Yv.indexRow (j := ((nextF (whL f.code) (f.code.getD k default) k).getD j default).toNat) rfl ss_104 (i := 2) rfl (E rfl rfl) (E rfl rfl) (fun hg => ⟨(Int.toNat_of_nonneg hlj.1).symm, by rw [← hl2]; exact hL⟩)) ?_
                            refine Y1 (Yv.loadEp rfl ag_85 (i := 2) rfl (E rfl rfl) (fun hg => sl_cell (by first | omega | assumption))) ?_
                            refine Y1 (Yv.move rfl eV) ?_
                            refine Y1 (Yv.indexRow (j := n) rfl ss_85 (i := ((nextF (whL f.code) (f.code.getD k default) k).getD j default).toNat + 3) (slM_row hL hlo) (E rfl rfl) (E rfl rfl) (fun hg => ⟨rfl, by omega⟩)) ?_
                            refine AWL.storeEp1 (i := ((nextF (whL f.code) (f.code.getD k default) k).getD j default).toNat + 3) rfl rfl rfl ag_4 (slM_row hL hlo) (E rfl rfl) (E rfl rfl) rfl rfl (by rw [List.length_map, mix_len hlo]; omega) ?_
                            refine nl ?_
                            refine AW.region ?_
                            refine Y1 (Yv.assign rfl eV) ?_
                            refine nl ?_
                            refine AW.region ?_
                            refine Y1 (Yv.move rfl eV) ?_
                            refine Y1 (Yv.addN_i64 rfl (E rfl rfl) (E rfl rfl) (fun hg => by omega)) ?_
                            refine Y1 (Yv.assign rfl eV) ?_
                            refine nl ?_
                            refine ⟨n + 1, by omega, by omega, (Sub.cons rfl rfl (Sub.cons rfl rfl (Sub.cons rfl rfl (Sub.cons rfl (by rw [decide_eq_false (mix_turn hlo hn2 h7t).2]; simp; rfl) (Sub.cons rfl rfl (Sub.cons rfl rfl (Sub.cons rfl rfl (Sub.cons rfl rfl (Sub.cons rfl (by simp) Sub.nil))))))))), ?_⟩
                            rw [← slM_set hL rfl (by rw [mix_len hlo]), (mix_turn hlo hn2 h7t).1, ← map_set, Nat.mul_one]
                            rfl
                          ·
                            try replace h7f := of_decide_eq_false h7f
                            rw [mix_at hlo (Nat.le_refl _)] at h7f
                            refine AW.skip ?_
                            refine AW.region ?_
                            refine Y1 (Yv.move rfl eV) ?_
                            refine Y1 (Yv.addN_i64 rfl (E rfl rfl) (E rfl rfl) (fun hg => by omega)) ?_
                            refine Y1 (Yv.assign rfl eV) ?_
                            refine nl ?_
                            refine ⟨n + 1, by omega, by omega, (Sub.cons rfl rfl (Sub.cons rfl rfl (Sub.cons rfl rfl (Sub.cons rfl (by rw [mix_same hlo hn2 h7f]) (Sub.cons rfl rfl (Sub.cons rfl rfl (Sub.cons rfl rfl (Sub.cons rfl rfl (Sub.cons rfl (by simp) Sub.nil))))))))), ?_⟩
                            unfold slM
                            rw [mix_same hlo hn2 h7f]
                        ·
                          try replace h6f := of_decide_eq_false h6f
                          have hnW : n = W := by omega
                          refine AW.exit ?_
                          refine AW.region ?_
                          refine Y1 (Yv.move rfl eV) ?_
                          refine Y1 (Yv.addN_i64 rfl (E rfl rfl) (E rfl rfl) (fun hg => by omega)) ?_
                          refine Y1 (Yv.assign rfl eV) ?_
                          refine nl ?_
                          have hmf := slM_fam hL hv2 hlo (show n = (sls2.getD ((nextF (whL f.code) (f.code.getD k default) k).getD j default).toNat default).bits.length by omega)
                          have hm2 := hfi2.meet hRW hk2 hlk hak hlm hlj.2
                          rw [← hmf.1, hmf.2] at hm2
                          refine ⟨j + 1, slM sls2 ((nextF (whL f.code) (f.code.getD k default) k).getD j default).toNat (behindF R (f.code.getD k default) (sls1.getD k default).bits) n, _, ⟨by omega, by rw [slM_len]; exact hl2, slM_ok hok2 hL hv2, hm2, fun hm => ?_⟩, by omega, (Sub.cons rfl rfl (Sub.cons rfl rfl (Sub.cons rfl rfl (Sub.cons rfl rfl (Sub.cons rfl rfl (Sub.cons rfl rfl (Sub.cons rfl rfl (Sub.cons rfl (by simp) Sub.nil)))))))), by rw [slM_cells hL hlo]⟩
                          rw [Bool.or_eq_false_iff, Bool.not_eq_false', decide_eq_true_eq] at hm
                          obtain ⟨g1, _, g2⟩ := hst2 hm.1
                          refine ⟨g1, trivial, fun q hq => ?_⟩
                          rcases Nat.lt_or_ge q j with h | h
                          · exact g2 q h
                          · have e : q = j := by omega
                            rw [e, ← hfi2.eq hm.1, fam_at hL, hv2]
                            refine meet_le hlo ?_
                            rw [← mix_all hlo, ← show n = (sls2.getD ((nextF (whL f.code) (f.code.getD k default) k).getD j default).toNat default).bits.length by omega]
                            exact hm.2
                  ·
                    try replace h4f := of_decide_eq_false h4f
                    refine AW.exit ?_
                    refine AW.region ?_
                    refine Y1 (Yv.move rfl eV) ?_
                    refine Y1 (Yv.addN_i64 rfl (E rfl rfl) (E rfl rfl) (fun hg => by omega)) ?_
                    refine Y1 (Yv.assign rfl eV) ?_
                    refine nl ?_
                    refine ⟨k + 1, sls2, more2, ⟨by omega, hl2, hok2, hfi2, fun hm q hq => ?_⟩, by omega, (Sub.cons rfl rfl (Sub.cons rfl rfl (Sub.cons rfl rfl (Sub.cons rfl rfl (Sub.cons rfl (by simp) Sub.nil))))), rfl⟩
                    obtain ⟨g1, g2, g3⟩ := hst2 hm
                    rcases Nat.lt_or_ge q k with h | h
                    · exact hst1 g1 q h
                    · obtain rfl : q = k := by omega
                      intro a ha l hl
                      rw [← hfi1.eq g1, fam_at (show q < sls1.length by omega), hvs] at ha
                      simp only [Option.some.injEq] at ha
                      subst ha
                      obtain ⟨j', hj', rfl⟩ := List.mem_iff_getElem.1 hl
                      rw [← gd hj']
                      exact g3 j' (by omega)
            ·
              try replace h2f := of_decide_eq_false h2f
              refine AW.exit ?_
              refine ⟨sls1, more1, ⟨hl1, hok1, FI.start hfi1.fin hfi1.ab hfi1.fst, fun h => by
                subst h
                exact hfi1.done (fun q hq => hst1 rfl q (by omega))⟩, ?_, (Sub.cons rfl rfl (Sub.cons rfl rfl (Sub.cons rfl rfl (Sub.cons rfl rfl Sub.nil)))), rfl⟩
              rw [h1t]
              cases more1 with
              | false => have := hfi1.le; simp; omega
              | true => have := hfi1.lt rfl; simp; omega
        ·
          try replace h1f := of_decide_eq_false h1f
          have hsl := hsol h1f
          refine AW.exit ?_
          refine AW.seq ?_
          refine AW.rseq ?_
          refine Y1 (Yv.assign rfl eV) ?_
          refine nl ?_
          refine AW.block ?_
          refine AW.loop (fun (k : Nat) => [(1, true, .v (.pointer (some ⟨b1, 0, none⟩))), (4, true, .v (.map (some w8))), (5, true, .v (.slice A25 f.code.length f.code.length)), (14, true, .v (.int .i64 (k : Int)))]) (fun (k : Nat) => (.map w8 (lmT (whL f.code)) :: .box b1 51 (fnCells f) :: .row A25 f.code.length f.code.length 85 1 ((sls).map slCell) :: (sls).map slRow)) (fun (k : Nat) => k ≤ f.code.length ∧ ∀ q, q < k → ∀ a, famAt (famS sls) q = some a → readOkB R (f.code.getD q default) a = true) (fun (k : Nat) => f.code.length - k) 0 ?_ ?_ ?_ ?_
          · exact ⟨Nat.zero_le _, fun q hq => absurd hq (Nat.not_lt_zero q)⟩
          · exact (Sub.cons rfl rfl (Sub.cons rfl rfl (Sub.cons rfl rfl (Sub.cons rfl rfl Sub.nil))))
          · rfl
          ·
            intro k hin5
            obtain ⟨hk3, hrd⟩ := hin5
            refine AW.seq ?_
            refine AW.rseq ?_
            refine Y1 (Yv.move rfl eV) ?_
            refine Y1 (Yv.fieldBox rfl fo_51_4 eV) ?_
            refine Y1 (Yv.loadBox rfl ag_49 (i := 1) rfl (E rfl rfl) rfl) ?_
            refine Y1 (Yv.lenSl rfl so_49 (B rfl) (E rfl rfl) len_code) ?_
            refine Y1 (Yv.lss rfl eV eV) ?_
            refine nl ?_
            refine AW.cond rfl (fun h8t => ?_) (fun h8f => ?_)
            ·
              try replace h8t := of_decide_eq_true h8t
              have hk4 : k < f.code.length := by omega
              have hks : k < sls.length := by omega
              refine AW.skip ?_
              refine AW.seq ?_
              refine AW.block ?_
              refine AW.seq ?_
              refine AW.rseq ?_
              refine Y1 (Yv.move rfl eV) ?_
              refine Y1 (Yv.move rfl eV) ?_
              refine Y1 (Yv.indexRow rfl ss_104 (i := 2) rfl (E rfl rfl) (E rfl rfl) (fun hg => ⟨rfl, by omega⟩)) ?_
              refine Y1 (Yv.loadEp rfl ag_85 (i := 2) rfl (E rfl rfl) (fun hg => sl_cell (by first | omega | assumption))) ?_
              refine Y1 (Yv.eqNilV rfl so_85 (E rfl rfl)) ?_
              refine nl ?_
              refine AW.cond rfl (fun h9t => ?_) (fun h9f => ?_)
              ·
                try replace h9t := of_decide_eq_true h9t
                have hv9n := sl_none (hok0 _ (getD_mem hks)) h9t
                refine AW.exit ?_
                refine AW.region ?_
                refine Y1 (Yv.move rfl eV) ?_
                refine Y1 (Yv.addN_i64 rfl (E rfl rfl) (E rfl rfl) (fun hg => by omega)) ?_
                refine Y1 (Yv.assign rfl eV) ?_
                refine nl ?_
                refine ⟨k + 1, ⟨by omega, fun q hq a ha => ?_⟩, by omega, (Sub.cons rfl rfl (Sub.cons rfl rfl (Sub.cons rfl rfl (Sub.cons rfl (by simp) Sub.nil)))), rfl⟩
                rcases Nat.lt_or_ge q k with h | h
                · exact hrd q h a ha
                · obtain rfl : q = k := by omega
                  rw [fam_at (show q < sls.length by omega), hv9n] at ha
                  cases ha
              ·
                try replace h9f := of_decide_eq_false h9f
                have hv9 := sl_some (hok0 _ (getD_mem hks)) h9f
                have hl9 : (sls.getD k default).bits.length = W := hfi.fin.bits _ _ (by rw [fam_at hks]; exact hv9)
                have hio := hf.ins _ (getD_mem hk4)
                have hslot := hio.slot
                have hrl : (readsF (f.code.getD k default)).length ≤ 2097152 := rd_len (hp.ins _ (getD_mem hk4)).args
                refine AW.skip ?_
                refine AW.rseq ?_
                refine Y1 (Yv.fieldBox rfl fo_51_4 eV) ?_
                refine Y1 (Yv.loadBox rfl ag_49 (i := 1) rfl (E rfl rfl) rfl) ?_
                refine Y1 (Yv.move rfl eV) ?_
                refine Y1 (Yv.indexSl rfl ss_49 (B rfl) (E rfl rfl) (E rfl rfl) (fun hg => ⟨rfl, (by first | omega | (simp only [len_code, len_funs, len_args, len_data, len_bits]; omega))⟩)) ?_
                refine Y1 (Yv.loadRpA rfl ag_58 (E rfl rfl) (fun hg => ins_cells (by omega))) ?_
                refine AWL.callT rfl rfl (B rfl) rfl ce_42 (E rfl rfl) (evsC (E rfl rfl) evs0) (Reads42 (f.code.getD k default) (hp.ins _ (getD_mem hk4)).args) ?_
                rintro t144 S144 rfl
                refine Y1 (Yv.assign rfl eV) ?_
                refine nl ?_
                refine AW.seq ?_
                refine AW.rseq ?_
                refine Y1 (Yv.assign rfl eV) ?_
                refine nl ?_
                refine AW.block ?_
                refine AW.loop (fun (j : Nat) => [(1, true, .v (.pointer (some ⟨b1, 0, none⟩))), (4, true, .v (.map (some w8))), (5, true, .v (.slice A25 f.code.length f.code.length)), (14, true, .v (.int .i64 (k : Int))), (15, true, .sl 1 ((readsF (f.code.getD k default)).map zi)), (16, true, .v (.int .i64 (j : Int)))]) (fun (j : Nat) => (.map w8 (lmT (whL f.code)) :: .box b1 51 (fnCells f) :: .row A25 f.code.length f.code.length 85 1 ((sls).map slCell) :: (sls).map slRow)) (fun (j : Nat) => j ≤ (readsF (f.code.getD k default)).length ∧ ∀ q, q < j → (sls.getD k default).bits.getD ((readsF (f.code.getD k default)).getD q default).toNat false = true) (fun (j : Nat) => (readsF (f.code.getD k default)).length - j) 0 ?_ ?_ ?_ ?_
                · exact ⟨Nat.zero_le _, fun q hq => absurd hq (Nat.not_lt_zero q)⟩
                · exact (Sub.cons rfl rfl (Sub.cons rfl rfl (Sub.cons rfl rfl (Sub.cons rfl rfl (Sub.cons rfl rfl (Sub.cons rfl rfl Sub.nil))))))
                · rfl
                ·
                  intro j hin6
                  obtain ⟨hj6, hrj⟩ := hin6
                  refine AW.seq ?_
                  refine AW.rseq ?_
                  refine Y1 (Yv.move rfl eV) ?_
                  refine Y1 (Yv.move rfl eV) ?_
                  refine Y1 (Yv.lenSl rfl so_47 (B rfl) (E rfl rfl) len_args) ?_
                  refine Y1 (Yv.lss rfl eV eV) ?_
                  refine nl ?_
                  refine AW.cond rfl (fun h10t => ?_) (fun h10f => ?_)
                  ·
                    try replace h10t := of_decide_eq_true h10t
                    have hj7 : j < (readsF (f.code.getD k default)).length := by omega
                    have hrq := reads_in hio _ (getD_mem hj7)
                    refine AW.skip ?_
                    refine AW.seq ?_
                    refine AW.block ?_
                    refine AW.rseqQ rfl (by kernel_rfl) ?_
                    refine AWQ.y rfl rfl (B rfl) (Yv.move rfl (E rfl rfl)) ?_
                    refine AWQ.y rfl rfl (B rfl) (Yv.move rfl (E rfl rfl)) ?_
                    refine AWQ.y rfl rfl (B rfl) (Yv.indexRow rfl ss_104 (i := 2) rfl (E rfl rfl) (E rfl rfl) (fun hg => ⟨rfl, by omega⟩)) ?_
                    refine AWQ.y rfl rfl (B rfl) (Yv.loadEp rfl ag_85 (i := 2) rfl (E rfl rfl) (fun hg => sl_cell (by first | omega | assumption))) ?_
                    refine AWQ.y rfl rfl (B rfl) (Yv.move rfl (E rfl rfl)) ?_
                    refine AWQ.y rfl rfl (B rfl) (Yv.move rfl (E rfl rfl)) ?_
                    refine AWQ.y rfl rfl (B rfl) (Yv.indexSl rfl ss_47 (B rfl) (E rfl rfl) (E rfl rfl) (fun hg => ⟨rfl, (by first | omega | (simp only [len_code, len_funs, len_args, len_data, len_bits]; omega))⟩)) ?_
                    refine AWQ.y rfl rfl (B rfl) (Yv.loadRp rfl ag_3 (E rfl rfl) (fun hg => arg_at (by omega))) ?_
                    refine AWQ.y rfl rfl (B rfl) (Yv.indexRow (j := ((readsF (f.code.getD k default)).getD j default).toNat) rfl ss_85 (i := k + 3) (sl_row hks) (E rfl rfl) (E rfl rfl) (fun hg => ⟨(Int.toNat_of_nonneg hrq.1).symm, by omega⟩)) ?_
                    refine AWQ.y rfl rfl (B rfl) (Yv.loadEp rfl ag_4 (i := k + 3) (sl_row hks) (E rfl rfl) (fun hg => bit_at (by omega))) ?_
                    refine AWQ.y rfl rfl (B rfl) (Yv.not rfl (E rfl rfl)) ?_
                    refine AWQ.nil ?_
                    refine AW.cond rfl (fun h11t => ?_) (fun h11f => ?_)
                    ·
                      try replace h11t := of_decide_eq_true h11t
                      refine AW.rseq ?_
                      refine Y1 (Yv.assign rfl eV) ?_
                      refine nl ?_
                      refine AW.ret (retI (.tmp rfl .nil) ?_)
                      exact ⟨false, rfl, ⟨fun h => (by cases h), fun h => absurd h (hNot _ k _ hfi.ab hk4 ((fam_at hks).trans hv9) (rd_bad1 hj7 (by simpa using h11t)))⟩⟩
                    ·
                      try replace h11f := of_decide_eq_false h11f
                      refine AW.skip ?_
                      refine AW.region ?_
                      refine Y1 (Yv.move rfl eV) ?_
                      refine Y1 (Yv.addN_i64 rfl (E rfl rfl) (E rfl rfl) (fun hg => by omega)) ?_
                      refine Y1 (Yv.assign rfl eV) ?_
                      refine nl ?_
                      refine ⟨j + 1, ⟨by omega, fun q hq => ?_⟩, by omega, (Sub.cons rfl rfl (Sub.cons rfl rfl (Sub.cons rfl rfl (Sub.cons rfl rfl (Sub.cons rfl rfl (Sub.cons rfl (by simp) Sub.nil)))))), rfl⟩
                      rcases Nat.lt_or_ge q j with h | h
                      · exact hrj q h
                      · obtain rfl : q = j := by omega
                        simpa using h11f
                  ·
                    try replace h10f := of_decide_eq_false h10f
                    refine AW.exit ?_
                    refine AW.rseqQ rfl (by kernel_rfl) ?_
                    refine AWQ.y rfl rfl (B rfl) (Yv.fieldBox rfl fo_51_4 (E rfl rfl)) ?_
                    refine AWQ.y rfl rfl (B rfl) (Yv.loadBox rfl ag_49 (i := 1) rfl (E rfl rfl) rfl) ?_
                    refine AWQ.y rfl rfl (B rfl) (Yv.move rfl (E rfl rfl)) ?_
                    refine AWQ.y rfl rfl (B rfl) (Yv.indexSl rfl ss_49 (B rfl) (E rfl rfl) (E rfl rfl) (fun hg => ⟨rfl, (by first | omega | (simp only [len_code, len_funs, len_args, len_data, len_bits]; omega))⟩)) ?_
                    refine AWQ.y rfl rfl (B rfl) (Yv.fieldRp rfl fo_58_0 (E rfl rfl)) ?_
                    refine AWQ.y rfl rfl (B rfl) (Yv.loadRp rfl ag_3 (E rfl rfl) (fun hg => ikind_at (by omega))) ?_
                    refine AWQ.y rfl rfl (B rfl) (Yv.eql rfl (E rfl rfl) (E rfl rfl)) ?_
                    refine AWQ.y rfl rfl (B rfl) (Yv.move rfl (E rfl rfl)) ?_
                    refine AWQ.ygT rfl rfl rfl rfl (B rfl) (Yv.move rfl (E rfl rfl)) ?_
                    refine AWQ.ygT rfl rfl rfl rfl (B rfl) (Yv.move rfl (E rfl rfl)) ?_
                    refine AWQ.ygT rfl rfl rfl rfl (B rfl) (Yv.indexRow rfl ss_104 (i := 2) rfl (Eg rfl rfl id) (Eg rfl rfl id) (fun hg => ⟨rfl, by omega⟩)) ?_
                    refine AWQ.ygT rfl rfl rfl rfl (B rfl) (Yv.loadEp rfl ag_85 (i := 2) rfl (Eg rfl rfl id) (fun hg => sl_cell (by first | omega | assumption))) ?_
                    refine AWQ.ygT rfl rfl rfl rfl (B rfl) (Yv.fieldBox rfl fo_51_2 (E rfl rfl)) ?_
                    refine AWQ.ygT rfl rfl rfl rfl (B rfl) (Yv.loadBox rfl ag_3 (i := 1) rfl (Eg rfl rfl id) rfl) ?_
                    refine AWQ.ygT rfl rfl rfl rfl (B rfl) (Yv.fieldBox rfl fo_51_4 (E rfl rfl)) ?_
                    refine AWQ.ygT rfl rfl rfl rfl (B rfl) (Yv.loadBox rfl ag_49 (i := 1) rfl (Eg rfl rfl id) rfl) ?_
                    refine AWQ.ygT rfl rfl rfl rfl (B rfl) (Yv.move rfl (E rfl rfl)) ?_
                    refine AWQ.ygT rfl rfl rfl rfl (B rfl) (Yv.indexSl rfl ss_49 (B rfl) (Eg rfl rfl id) (Eg rfl rfl id) (fun hg => ⟨rfl, (by first | omega | (simp only [len_code, len_funs, len_args, len_data, len_bits]; omega) | (simp only [len_code, len_funs, len_args, len_data, len_bits]; simp only [Bool.and_eq_true, Bool.or_eq_false_iff, Bool.not_eq_true', Bool.not_eq_false', decide_eq_true_eq, decide_eq_false_iff_not] at hg; omega))⟩)) ?_
                    refine AWQ.ygT rfl rfl rfl rfl (B rfl) (Yv.fieldRp rfl fo_58_9 (Eg rfl rfl id)) ?_
                    refine AWQ.ygT rfl rfl rfl rfl (B rfl) (Yv.loadRp rfl ag_2 (Eg rfl rfl id) (fun hg => iimm_at (by first | omega | (simp only [Bool.or_eq_true, Bool.and_eq_true, Bool.or_eq_false_iff, Bool.and_eq_false_iff, Bool.not_eq_true', Bool.not_eq_false', decide_eq_true_eq, decide_eq_false_iff_not, Decidable.not_not] at hg; omega)))) ?_
                    refine AWQ.ygT rfl rfl rfl rfl (B rfl) (Yv.addN_i64 rfl (Eg rfl rfl id) (Eg rfl rfl id) (fun hg => by simp only [Bool.true_and, decide_eq_true_eq] at hg; have h31 := hslot (.inl hg); omega)) ?_
                    refine AWQ.ygT rfl rfl rfl rfl (B rfl) (Yv.indexRow (j := R + (f.code.getD k default).imm.toNat) rfl ss_85 (i := k + 3) (sl_row hks) (Eg rfl rfl id) (Eg rfl rfl id) (fun hg => by simp only [Bool.true_and, decide_eq_true_eq] at hg; have h31 := hslot (.inl hg); exact ⟨by omega, by omega⟩)) ?_
                    refine AWQ.ygT rfl rfl rfl rfl (B rfl) (Yv.loadEp rfl ag_4 (i := k + 3) (sl_row hks) (Eg rfl rfl id) (fun hg => by simp only [Bool.true_and, decide_eq_true_eq] at hg; have h31 := hslot (.inl hg); exact bit_at (by omega))) ?_
                    refine AWQ.ygT rfl rfl rfl rfl (B rfl) (Yv.not rfl (Eg rfl rfl id)) ?_
                    refine AWQ.y rfl rfl (B rfl) (Yv.pickAnd rfl (E rfl rfl) (Eg rfl rfl id)) ?_
                    refine AWQ.nil ?_
                    refine AW.cond rfl (fun h12t => ?_) (fun h12f => ?_)
                    ·
                      try replace h12t := of_decide_eq_true h12t
                      refine AW.rseq ?_
                      refine Y1 (Yv.assign rfl eV) ?_
                      refine nl ?_
                      refine AW.ret (retI (.tmp rfl .nil) ?_)
                      rw [Bool.and_eq_true, decide_eq_true_eq] at h12t
                      exact ⟨false, rfl, ⟨fun h => (by cases h), fun h => absurd h (hNot _ k _ hfi.ab hk4 ((fam_at hks).trans hv9) (rd_bad2 h12t.1 (by simpa using h12t.2)))⟩⟩
                    ·
                      try replace h12f := of_decide_eq_false h12f
                      refine AW.skip ?_
                      refine AW.region ?_
                      refine Y1 (Yv.move rfl eV) ?_
                      refine Y1 (Yv.addN_i64 rfl (E rfl rfl) (E rfl rfl) (fun hg => by omega)) ?_
                      refine Y1 (Yv.assign rfl eV) ?_
                      refine nl ?_
                      refine ⟨k + 1, ⟨by omega, fun q hq a ha => ?_⟩, by omega, (Sub.cons rfl rfl (Sub.cons rfl rfl (Sub.cons rfl rfl (Sub.cons rfl (by simp) Sub.nil)))), rfl⟩
                      rcases Nat.lt_or_ge q k with h | h
                      · exact hrd q h a ha
                      · obtain rfl : q = k := by omega
                        rw [fam_at (show q < sls.length by omega), hv9] at ha
                        simp only [Option.some.injEq] at ha
                        subst ha
                        exact rd_ok (fun q' hq' => hrj q' (by omega)) h12f
            ·
              try replace h8f := of_decide_eq_false h8f
              refine AW.exit ?_
              refine AW.rseq ?_
              refine Y1 (Yv.assign rfl eV) ?_
              refine nl ?_
              refine AW.ret (retI (.tmp rfl .nil) ?_)
              exact ⟨true, rfl, ⟨fun _ => (hSol _ hsl hfi.ab).2 (fun q a hq ha => hrd q (by omega) a ha), fun _ => rfl⟩⟩

theorem strict25 (p : Prog) (f : Fn) (hp : FnIn f) (hf : FnOk p f) : ACalls Try.prog 25 [.agg (fnCells f)] [] (fun t S => ∃ b, t = bv b ∧ (b = true ↔ StrictF f)) := strict25_ p f hp hf _ _ rfl rfl
def StrictP (p : Prog) : Prop := checkR p = 0 ∧ ∀ f ∈ p.funs, StrictF f
set_option maxHeartbeats 1000000 in
theorem Strict10 (p : Prog) (hp : ProgIn p) :
    ACalls Try.prog 10 [.agg (progCells p)] [] (fun t S => ∃ b, t = bv b ∧ (b = true ↔ StrictP p)) := by
  have hpf := hp.funs
  refine ACalls.intro Try.func10 rfl Try.ntmps10 (Nat.le_of_ble_eq_true rfl) rfl fun X w0 => ?_
  refine AW.rseq ?_
  refine AWL.boxOp rfl rfl (B rfl) rfl (E rfl rfl) rfl (fun b1 => ?_)
  refine Y1 (Yv.assign rfl eV) ?_
  refine nl ?_
  refine AW.rseq ?_
  refine Y1 (Yv.loadBoxA rfl ag_25 (i := 0) rfl (E rfl rfl) rfl rfl) ?_
  refine AWL.callP rfl rfl (B rfl) rfl ce_7 (E rfl rfl) (evsC (E rfl rfl) evs0) (Check7 p hp) (fun t S h => h) ?_
  refine Y1 (Yv.assign rfl eV) ?_
  refine nl ?_
  refine AW.seq ?_
  refine AW.rseq ?_
  refine Y1 (Yv.move rfl eV) ?_
  refine Y1 (Yv.neq rfl eV eV) ?_
  refine nl ?_
  refine AW.cond rfl (fun h0t => ?_) (fun h0f => ?_)
  ·
    try replace h0t := of_decide_eq_true h0t
    have hne : ¬ checkR p = 0 := by simpa using h0t
    refine AW.rseq ?_
    refine Y1 (Yv.assign rfl eV) ?_
    refine nl ?_
    refine AW.ret (retI (.tmp rfl .nil) ?_)
    exact ⟨false, rfl, ⟨fun h => (by cases h), fun h => absurd h.1 hne⟩⟩
  ·
    try replace h0f := of_decide_eq_false h0f
    have he0 : checkR p = 0 := by simpa using h0f
    have hok := check_good he0
    refine AW.skip ?_
    refine AW.seq ?_
    refine AW.rseq ?_
    refine Y1 (Yv.assign rfl eV) ?_
    refine nl ?_
    refine AW.block ?_
    refine AW.loop (fun (j : Nat) => [(1, true, .v (.pointer (some ⟨b1, 0, none⟩))), (4, true, .v (.int .i64 (j : Int)))]) (fun (j : Nat) => [.box b1 25 (progCells p)]) (fun (j : Nat) => j ≤ p.funs.length ∧ ∀ q, q < j → StrictF (p.funs.getD q default)) (fun (j : Nat) => p.funs.length - j) 0 ?_ ?_ ?_ ?_
    · exact ⟨Nat.zero_le _, fun q hq => absurd hq (Nat.not_lt_zero q)⟩
    · exact (Sub.cons rfl rfl (Sub.cons rfl rfl Sub.nil))
    · rfl
    ·
      intro j hinv
      obtain ⟨hj, hst⟩ := hinv
      refine AW.seq ?_
      refine AW.rseq ?_
      refine Y1 (Yv.move rfl eV) ?_
      refine Y1 (Yv.fieldBox rfl fo_25_0 eV) ?_
      refine Y1 (Yv.loadBox rfl ag_22 (i := 0) rfl (E rfl rfl) rfl) ?_
      refine Y1 (Yv.lenSl rfl so_22 (B rfl) (E rfl rfl) len_funs) ?_
      refine Y1 (Yv.lss rfl eV eV) ?_
      refine nl ?_
      refine AW.cond rfl (fun h1t => ?_) (fun h1f => ?_)
      ·
        try replace h1t := of_decide_eq_true h1t
        have hj2 : j < p.funs.length := by omega
        refine AW.skip ?_
        refine AW.seq ?_
        refine AW.block ?_
        refine AW.rseq ?_
        refine Y1 (Yv.fieldBox rfl fo_25_0 eV) ?_
        refine Y1 (Yv.loadBox rfl ag_22 (i := 0) rfl (E rfl rfl) rfl) ?_
        refine Y1 (Yv.move rfl eV) ?_
        refine Y1 (Yv.indexSl rfl ss_22 (B rfl) (E rfl rfl) (E rfl rfl) (fun hg => ⟨rfl, (by first | omega | (simp only [len_code, len_funs, len_args, len_data, len_bits]; omega))⟩)) ?_
        refine Y1 (Yv.loadRpA rfl ag_51 (E rfl rfl) (fun hg => fn_cells (by omega))) ?_
        refine AWL.callT rfl rfl (B rfl) rfl ce_25 (E rfl rfl) (evsC (E rfl rfl) evs0) (strict25 p (p.funs.getD j default) (hp.fn _ (getD_mem hj2)) (hok.fn _ (getD_mem hj2))) ?_
        rintro t22 S22 ⟨b5, rfl, hb5⟩
        refine Y1 (Yv.assign rfl eV) ?_
        refine nl ?_
        refine AW.rseq ?_
        refine Y1 (Yv.move rfl eV) ?_
        refine Y1 (Yv.not rfl eV) ?_
        refine nl ?_
        refine AW.cond rfl (fun h2t => ?_) (fun h2f => ?_)
        ·
          try replace h2t := of_decide_eq_true h2t
          refine AW.rseq ?_
          refine Y1 (Yv.assign rfl eV) ?_
          refine nl ?_
          refine AW.ret (retI (.tmp rfl .nil) ?_)
          exact ⟨false, rfl, ⟨fun h => (by cases h), fun h => absurd (hb5.2 (h.2 _ (getD_mem hj2))) (by simpa using h2t)⟩⟩
        ·
          try replace h2f := of_decide_eq_false h2f
          refine AW.skip ?_
          refine AW.region ?_
          refine Y1 (Yv.move rfl eV) ?_
          refine Y1 (Yv.addN_i64 rfl (E rfl rfl) (E rfl rfl) (fun hg => by omega)) ?_
          refine Y1 (Yv.assign rfl eV) ?_
          refine nl ?_
          refine ⟨j + 1, ⟨by omega, fun q hq => ?_⟩, by omega, (Sub.cons rfl rfl (Sub.cons rfl (by simp) Sub.nil)), rfl⟩
          rcases Nat.lt_or_ge q j with h | h
          · exact hst q h
          · obtain rfl : q = j := by omega
            exact hb5.1 (by simpa using h2f)
      ·
        try replace h1f := of_decide_eq_false h1f
        refine AW.exit ?_
        refine AW.rseq ?_
        refine Y1 (Yv.assign rfl eV) ?_
        refine nl ?_
        refine AW.ret (retI (.tmp rfl .nil) ?_)
        exact ⟨true, rfl, ⟨fun _ => ⟨he0, fun g hg => by
          obtain ⟨q, hq, rfl⟩ := List.mem_iff_getElem.1 hg
          rw [← gd hq]; exact hst q (by omega)⟩, fun _ => rfl⟩⟩

end Go.Proofs.Ytlfklgganokgdaa

namespace Go.Proofs.Ytlfklgganokgdaa
open Go Go.RowKit
set_option linter.unusedVariables false
set_option linter.unusedSimpArgs false
abbrev Wd64 := BitVec 64
/-- A word, as a value. -/
def zw (a : Wd64) : T := .v (.int .u64 (a.toNat : Int))
theorem wrap_u64 (z : Int) : IntKind.u64.wrap z = z % 18446744073709551616 := by
  unfold IntKind.wrap
  simp [IntKind.signed, IntKind.bits]
theorem wrap_nat (a : Wd64) : IntKind.u64.wrap (a.toNat : Int) = a.toNat := by
  rw [wrap_u64]
  have := a.isLt
  omega
theorem ofInt_word (a : Wd64) : BitVec.ofInt 64 (a.toNat : Int) = a := by
  apply BitVec.eq_of_toNat_eq
  rw [BitVec.toNat_ofInt]
  have := a.isLt
  omega
theorem bits_and (a b : Wd64) : bitsOf .and .u64 (a.toNat : Int) (b.toNat : Int) = ((a &&& b).toNat : Int) := by
  show IntKind.u64.wrap ((BitVec.ofInt 64 (a.toNat : Int) &&& BitVec.ofInt 64 (b.toNat : Int)).toNat : Int) = _
  rw [ofInt_word, ofInt_word, wrap_nat]
theorem bits_or (a b : Wd64) : bitsOf .or .u64 (a.toNat : Int) (b.toNat : Int) = ((a ||| b).toNat : Int) := by
  show IntKind.u64.wrap ((BitVec.ofInt 64 (a.toNat : Int) ||| BitVec.ofInt 64 (b.toNat : Int)).toNat : Int) = _
  rw [ofInt_word, ofInt_word, wrap_nat]
theorem bits_xor (a b : Wd64) : bitsOf .xor .u64 (a.toNat : Int) (b.toNat : Int) = ((a ^^^ b).toNat : Int) := by
  show IntKind.u64.wrap ((BitVec.ofInt 64 (a.toNat : Int) ^^^ BitVec.ofInt 64 (b.toNat : Int)).toNat : Int) = _
  rw [ofInt_word, ofInt_word, wrap_nat]
theorem bits_andNot (a b : Wd64) : bitsOf .andNot .u64 (a.toNat : Int) (b.toNat : Int) = ((a &&& ~~~b).toNat : Int) := by
  show IntKind.u64.wrap ((BitVec.ofInt 64 (a.toNat : Int) &&& ~~~BitVec.ofInt 64 (b.toNat : Int)).toNat : Int) = _
  rw [ofInt_word, ofInt_word, wrap_nat]
theorem shl_word (a : Wd64) {n : Nat} (hn : n < 64) : shlOf .u64 (a.toNat : Int) (n : Int) = ((a <<< n).toNat : Int) := by
  unfold shlOf
  rw [wrap_u64, BitVec.toNat_shiftLeft, Nat.shiftLeft_eq, show min (n : Int).toNat IntKind.u64.bits = n from by show min n 64 = n; omega, Int.natCast_emod, Int.natCast_mul, Int.natCast_pow]
  rfl
theorem shr_word (a : Wd64) {n : Nat} (hn : n < 64) : shrOf .u64 (a.toNat : Int) (n : Int) = ((a >>> n).toNat : Int) := by
  unfold shrOf
  rw [BitVec.toNat_ushiftRight, Nat.shiftRight_eq_div_pow, show min (n : Int).toNat IntKind.u64.bits = n from by show min n 64 = n; omega]
  rw [Int.fdiv_eq_ediv_of_nonneg _ (by have : (0 : Int) < 2 ^ n := Int.pow_pos (by decide); omega), Int.natCast_ediv, Int.natCast_pow]
  rfl
theorem word_inj (a b : Wd64) : decide ((a.toNat : Int) = (b.toNat : Int)) = decide (a = b) := by
  apply decide_eq_decide.2
  constructor
  · intro h; exact BitVec.eq_of_toNat_eq (by omega)
  · intro h; rw [h]
theorem word_lt (a b : Wd64) : decide ((a.toNat : Int) < (b.toNat : Int)) = decide (a < b) := by
  apply decide_eq_decide.2
  rw [BitVec.lt_def]
  omega
theorem word_le (a b : Wd64) : decide ((a.toNat : Int) ≤ (b.toNat : Int)) = decide (a ≤ b) := by
  apply decide_eq_decide.2
  rw [BitVec.le_def]
  omega
theorem add_word (a b : Wd64) : IntKind.u64.wrap ((a.toNat : Int) + (b.toNat : Int)) = ((a + b).toNat : Int) := by
  rw [wrap_u64, BitVec.toNat_add, Int.natCast_emod, Int.natCast_add]; rfl
theorem mul_word (a b : Wd64) : IntKind.u64.wrap ((a.toNat : Int) * (b.toNat : Int)) = ((a * b).toNat : Int) := by
  rw [wrap_u64, BitVec.toNat_mul, Int.natCast_emod, Int.natCast_mul]; rfl
theorem sub_word (a b : Wd64) : IntKind.u64.wrap ((a.toNat : Int) - (b.toNat : Int)) = ((a - b).toNat : Int) := by
  rw [wrap_u64, BitVec.toNat_sub]
  have := a.isLt
  have := b.isLt
  omega
section
variable {cx : Cx} {env : Env} {S : St} {o : Oper} {g : Bool} {x y z : Operand} {d : Nat}
theorem Yv.andW {ty yt : TypeId} {a b : Wd64} (ho : o.op = .binOp .and ty x y yt) (hx : Ev env g x (zw a)) (hy : Ev env g y (zw b)) : Yv cx o env S g (zw (a &&& b)) := by
  have h := Yv.bits (cx := cx) (S := S) ho rfl hx hy; rw [bits_and] at h; exact h
theorem Yv.orW {ty yt : TypeId} {a b : Wd64} (ho : o.op = .binOp .or ty x y yt) (hx : Ev env g x (zw a)) (hy : Ev env g y (zw b)) : Yv cx o env S g (zw (a ||| b)) := by
  have h := Yv.bits (cx := cx) (S := S) ho rfl hx hy; rw [bits_or] at h; exact h
theorem Yv.xorW {ty yt : TypeId} {a b : Wd64} (ho : o.op = .binOp .xor ty x y yt) (hx : Ev env g x (zw a)) (hy : Ev env g y (zw b)) : Yv cx o env S g (zw (a ^^^ b)) := by
  have h := Yv.bits (cx := cx) (S := S) ho rfl hx hy; rw [bits_xor] at h; exact h
theorem Yv.andNotW {ty yt : TypeId} {a b : Wd64} (ho : o.op = .binOp .andNot ty x y yt) (hx : Ev env g x (zw a)) (hy : Ev env g y (zw b)) : Yv cx o env S g (zw (a &&& ~~~b)) := by
  have h := Yv.bits (cx := cx) (S := S) ho rfl hx hy; rw [bits_andNot] at h; exact h
theorem Yv.shlW {ty yt : TypeId} {k : IntKind} {a : Wd64} {n : Nat} (ho : o.op = .binOp .shl ty x y yt) (hx : Ev env g x (zw a)) (hy : Ev env g y (.v (.int k (n : Int)))) (hn : n < 64) : Yv cx o env S g (zw (a <<< n)) := by
  have h := Yv.shl (cx := cx) (S := S) ho hx hy (fun _ => by omega); rw [shl_word a hn] at h; exact h
theorem Yv.shrW {ty yt : TypeId} {k : IntKind} {a : Wd64} {n : Nat} (ho : o.op = .binOp .shr ty x y yt) (hx : Ev env g x (zw a)) (hy : Ev env g y (.v (.int k (n : Int)))) (hn : n < 64) : Yv cx o env S g (zw (a >>> n)) := by
  have h := Yv.shr (cx := cx) (S := S) ho hx hy (fun _ => by omega); rw [shr_word a hn] at h; exact h
theorem Yv.eqlW {ty yt : TypeId} {a b : Wd64} (ho : o.op = .binOp .eql ty x y yt) (hx : Ev env g x (zw a)) (hy : Ev env g y (zw b)) : Yv cx o env S g (.v (.bool (decide (a = b)))) := by
  have h := Yv.eql (cx := cx) (S := S) ho hx hy; rw [word_inj] at h; exact h
theorem Yv.neqW {ty yt : TypeId} {a b : Wd64} (ho : o.op = .binOp .neq ty x y yt) (hx : Ev env g x (zw a)) (hy : Ev env g y (zw b)) : Yv cx o env S g (.v (.bool (!decide (a = b)))) := by
  have h := Yv.neq (cx := cx) (S := S) ho hx hy; rw [word_inj] at h; exact h
theorem Yv.lssW {ty yt : TypeId} {a b : Wd64} (ho : o.op = .binOp .lss ty x y yt) (hx : Ev env g x (zw a)) (hy : Ev env g y (zw b)) : Yv cx o env S g (.v (.bool (decide (a < b)))) := by
  have h := Yv.lss (cx := cx) (S := S) ho hx hy; rw [word_lt] at h; exact h
theorem Yv.leqW {ty yt : TypeId} {a b : Wd64} (ho : o.op = .binOp .leq ty x y yt) (hx : Ev env g x (zw a)) (hy : Ev env g y (zw b)) : Yv cx o env S g (.v (.bool (decide (a ≤ b)))) := by
  have h := Yv.leq (cx := cx) (S := S) ho hx hy; rw [word_le] at h; exact h
theorem Yv.gtrW {ty yt : TypeId} {a b : Wd64} (ho : o.op = .binOp .gtr ty x y yt) (hx : Ev env g x (zw a)) (hy : Ev env g y (zw b)) : Yv cx o env S g (.v (.bool (decide (b < a)))) := by
  have h := Yv.gtr (cx := cx) (S := S) ho hx hy; rw [word_lt] at h; exact h
theorem Yv.addW {ty yt : TypeId} {a b : Wd64} (ho : o.op = .binOp .add ty x y yt) (hx : Ev env g x (zw a)) (hy : Ev env g y (zw b)) : Yv cx o env S g (zw (a + b)) := by
  have h := Yv.add (cx := cx) (S := S) ho hx hy; rw [add_word] at h; exact h
theorem Yv.subW {ty yt : TypeId} {a b : Wd64} (ho : o.op = .binOp .sub ty x y yt) (hx : Ev env g x (zw a)) (hy : Ev env g y (zw b)) : Yv cx o env S g (zw (a - b)) := by
  have h := Yv.sub (cx := cx) (S := S) ho hx hy; rw [sub_word] at h; exact h
theorem Yv.mulW {ty yt : TypeId} {a b : Wd64} (ho : o.op = .binOp .mul ty x y yt) (hx : Ev env g x (zw a)) (hy : Ev env g y (zw b)) : Yv cx o env S g (zw (a * b)) := by
  have h := Yv.mul (cx := cx) (S := S) ho hx hy; rw [mul_word] at h; exact h
end
/-! ### a region that draws its order, gone through by what is done -/
section
variable {cx : Cx} {env : Env} {S : St} {ops : Array Oper} {K : Env → St → Prop}
/-- A state within the region, to which many orders come. -/
theorem AWP.node {fuel : Nat} {listed : Array Bool} {ι : Type} (fuel' : Nat) (listed' : Array Bool) (E : ι → Env) (H : ι → St) (inv : ι → Prop) (h2 : ∀ y, inv y → AWP cx ops fuel' listed' K (E y) (H y)) (h1 : (∀ y, inv y → AWP cx ops fuel' listed' K (E y) (H y)) → AWP cx ops fuel listed K env S) : AWP cx ops fuel listed K env S := h1 h2
theorem AWP.to {fuel : Nat} {listed listed' : Array Bool} {env' : Env} {S' : St} (h : AWP cx ops fuel listed' K env' S') (hl : listed = listed') (hs : S = S') (hsub : Sub env' env) : AWP cx ops fuel listed K env S := by
  subst hl; subst hs
  exact fun a w hs => h a w (hs.weaken hsub)
theorem AWP.four {o0 o1 o2 o3 : Oper} {fuel i0 i1 i2 i3 : Nat} {listed : Array Bool} (hr : Region.ready .any ops listed = [i0, i1, i2, i3]) (e0 : ops[i0]? = some o0) (e1 : ops[i1]? = some o1) (e2 : ops[i2]? = some o2) (e3 : ops[i3]? = some o3)
    (h0 : AWL cx ops [o0] (AWP cx ops fuel (listed.setIfInBounds i0 true) K) env S) (h1 : AWL cx ops [o1] (AWP cx ops fuel (listed.setIfInBounds i1 true) K) env S) (h2 : AWL cx ops [o2] (AWP cx ops fuel (listed.setIfInBounds i2 true) K) env S) (h3 : AWL cx ops [o3] (AWP cx ops fuel (listed.setIfInBounds i3 true) K) env S) : AWP cx ops (fuel + 1) listed K env S := by
  intro a w hs
  refine wpAny_all hr (by simp) fun q hq => ?_
  simp only [List.mem_cons, List.not_mem_nil, or_false] at hq
  rcases hq with rfl | rfl | rfl | rfl
  · exact wpOp_of_AWL e0 h0 (fun _ _ a w h1 h2 => h1 a w h2) hs
  · exact wpOp_of_AWL e1 h1 (fun _ _ a w h1 h2 => h1 a w h2) hs
  · exact wpOp_of_AWL e2 h2 (fun _ _ a w h1 h2 => h1 a w h2) hs
  · exact wpOp_of_AWL e3 h3 (fun _ _ a w h1 h2 => h1 a w h2) hs
theorem AWP.five {o0 o1 o2 o3 o4 : Oper} {fuel i0 i1 i2 i3 i4 : Nat} {listed : Array Bool} (hr : Region.ready .any ops listed = [i0, i1, i2, i3, i4]) (e0 : ops[i0]? = some o0) (e1 : ops[i1]? = some o1) (e2 : ops[i2]? = some o2) (e3 : ops[i3]? = some o3) (e4 : ops[i4]? = some o4)
    (h0 : AWL cx ops [o0] (AWP cx ops fuel (listed.setIfInBounds i0 true) K) env S) (h1 : AWL cx ops [o1] (AWP cx ops fuel (listed.setIfInBounds i1 true) K) env S) (h2 : AWL cx ops [o2] (AWP cx ops fuel (listed.setIfInBounds i2 true) K) env S) (h3 : AWL cx ops [o3] (AWP cx ops fuel (listed.setIfInBounds i3 true) K) env S) (h4 : AWL cx ops [o4] (AWP cx ops fuel (listed.setIfInBounds i4 true) K) env S) : AWP cx ops (fuel + 1) listed K env S := by
  intro a w hs
  refine wpAny_all hr (by simp) fun q hq => ?_
  simp only [List.mem_cons, List.not_mem_nil, or_false] at hq
  rcases hq with rfl | rfl | rfl | rfl | rfl
  · exact wpOp_of_AWL e0 h0 (fun _ _ a w h1 h2 => h1 a w h2) hs
  · exact wpOp_of_AWL e1 h1 (fun _ _ a w h1 h2 => h1 a w h2) hs
  · exact wpOp_of_AWL e2 h2 (fun _ _ a w h1 h2 => h1 a w h2) hs
  · exact wpOp_of_AWL e3 h3 (fun _ _ a w h1 h2 => h1 a w h2) hs
  · exact wpOp_of_AWL e4 h4 (fun _ _ a w h1 h2 => h1 a w h2) hs
theorem perm_ins {α : Type} {F G : List α} {x : α} : (F ++ x :: G).Perm ((F ++ G) ++ [x]) := List.perm_middle.trans (List.perm_append_singleton _ _).symm
end
end Go.Proofs.Ytlfklgganokgdaa

namespace Go.Proofs.Ytlfklgganokgdaa
open Go Go.RowKit
set_option linter.unusedSimpArgs false
set_option linter.unusedVariables false
def bitW (bs : List Wd64) (n : Nat) : Bool := (bs.getD (n / 64) 0#64).getLsbD (n % 64)
def absB (bs : List Wd64) : List Bool := (List.range (64 * bs.length)).map (bitW bs)
theorem absB_len (bs : List Wd64) : (absB bs).length = 64 * bs.length := by unfold absB; simp
theorem absB_get (bs : List Wd64) (n : Nat) : (absB bs).getD n false = bitW bs n := by
  unfold absB
  simp only [List.getD_eq_getElem?_getD, List.getElem?_map]
  by_cases h : n < 64 * bs.length
  · rw [List.getElem?_range h]; rfl
  · rw [List.getElem?_eq_none (by simpa using h)]
    unfold bitW
    rw [List.getD_eq_getElem?_getD, List.getElem?_eq_none (by omega)]
    simp
theorem ext_bits {a b : List Bool} (hl : a.length = b.length) (h : ∀ n, n < a.length → a.getD n false = b.getD n false) : a = b := by
  apply List.ext_getElem hl
  intro n h1 h2
  have := h n h1
  simpa [h1, h2] using this
theorem has_bit (w : Wd64) {r : Nat} (hr : r < 64) : decide ((w >>> r) &&& 1#64 = 1#64) = w.getLsbD r := by
  have e : ((w >>> r) &&& 1#64) = if w.getLsbD r then 1#64 else 0#64 := by
    apply BitVec.eq_of_getLsbD_eq
    intro i hi
    rw [BitVec.getLsbD_and, BitVec.getLsbD_ushiftRight]
    by_cases h0 : i = 0
    · subst h0
      cases h : w.getLsbD r <;> simp [h]
    · have h1 : (1#64).getLsbD i = false := by
        rw [BitVec.getLsbD_one]; simp; omega
      rw [h1, Bool.and_false]
      split
      · exact h1.symm
      · simp
  rw [e]
  cases w.getLsbD r <;> decide
theorem bit_or (w : Wd64) {r q : Nat} (hr : r < 64) (hq : q < 64) : (w ||| (1#64 <<< r)).getLsbD q = (w.getLsbD q || decide (q = r)) := by
  rw [BitVec.getLsbD_or, BitVec.getLsbD_shiftLeft]
  by_cases h : q = r
  · subst h; simp [hq]
  · by_cases h2 : q < r
    · simp [h, h2]
    · have : (1#64).getLsbD (q - r) = false := by rw [BitVec.getLsbD_one]; simp; omega
      simp [h, this]
theorem bit_clr (w : Wd64) {r q : Nat} (hr : r < 64) (hq : q < 64) : (w &&& ~~~(1#64 <<< r)).getLsbD q = (w.getLsbD q && !decide (q = r)) := by
  rw [BitVec.getLsbD_and, BitVec.getLsbD_not, BitVec.getLsbD_shiftLeft]
  by_cases h : q = r
  · subst h; simp [hq]
  · by_cases h2 : q < r
    · simp [h, h2, hq]
    · have : (1#64).getLsbD (q - r) = false := by rw [BitVec.getLsbD_one]; simp; omega
      simp [h, this, hq]
def putW (bs : List Wd64) (n : Nat) : List Wd64 := bs.set (n / 64) (bs.getD (n / 64) 0#64 ||| (1#64 <<< (n % 64)))
def clrW (bs : List Wd64) (n : Nat) : List Wd64 := bs.set (n / 64) (bs.getD (n / 64) 0#64 &&& ~~~(1#64 <<< (n % 64)))
theorem getD_setW {l : List Wd64} {i n : Nat} {b : Wd64} (h : i < l.length) : (l.set i b).getD n 0#64 = if i = n then b else l.getD n 0#64 := by
  simp only [List.getD_eq_getElem?_getD, List.getElem?_set]
  by_cases e : i = n
  · subst e; simp [h]
  · simp [e]
theorem abs_put {bs : List Wd64} {n : Nat} (h : n < 64 * bs.length) : absB (putW bs n) = (absB bs).set n true := by
  refine ext_bits (by rw [absB_len, List.length_set, absB_len]; unfold putW; rw [List.length_set]) fun q hq => ?_
  have hq' : q < 64 * bs.length := by rw [absB_len] at hq; unfold putW at hq; rwa [List.length_set] at hq
  rw [absB_get, getD_set, absB_get, absB_len]
  unfold bitW putW
  rw [getD_setW (by omega)]
  by_cases e : n / 64 = q / 64
  · rw [if_pos e, bit_or _ (Nat.mod_lt _ (by decide)) (Nat.mod_lt _ (by decide))]
    by_cases e2 : n = q
    · subst e2; rw [if_pos ⟨rfl, h⟩]; simp
    · rw [if_neg (fun x => e2 x.1), decide_eq_false (by omega), Bool.or_false, e]
  · rw [if_neg e, if_neg (fun x => e (by rw [x.1]))]
theorem abs_clr {bs : List Wd64} {n : Nat} (h : n < 64 * bs.length) : absB (clrW bs n) = (absB bs).set n false := by
  refine ext_bits (by rw [absB_len, List.length_set, absB_len]; unfold clrW; rw [List.length_set]) fun q hq => ?_
  have hq' : q < 64 * bs.length := by rw [absB_len] at hq; unfold clrW at hq; rwa [List.length_set] at hq
  rw [absB_get, getD_set, absB_get, absB_len]
  unfold bitW clrW
  rw [getD_setW (by omega)]
  by_cases e : n / 64 = q / 64
  · rw [if_pos e, bit_clr _ (Nat.mod_lt _ (by decide)) (Nat.mod_lt _ (by decide))]
    by_cases e2 : n = q
    · subst e2; rw [if_pos ⟨rfl, h⟩]; simp
    · rw [if_neg (fun x => e2 x.1), decide_eq_false (by omega), e]; simp
  · rw [if_neg e, if_neg (fun x => e (by rw [x.1]))]
theorem putW_len (bs : List Wd64) (n : Nat) : (putW bs n).length = bs.length := by unfold putW; rw [List.length_set]
theorem clrW_len (bs : List Wd64) (n : Nat) : (clrW bs n).length = bs.length := by unfold clrW; rw [List.length_set]
def meetW (a b : List Wd64) : List Wd64 := List.zipWith (· &&& ·) a b
theorem meetW_len {a b : List Wd64} (h : a.length = b.length) : (meetW a b).length = a.length := by unfold meetW; rw [List.length_zipWith, h, Nat.min_self]
theorem meetW_get {a b : List Wd64} (h : a.length = b.length) (n : Nat) : (meetW a b).getD n 0#64 = a.getD n 0#64 &&& b.getD n 0#64 := by
  unfold meetW
  simp only [List.getD_eq_getElem?_getD, List.getElem?_zipWith]
  by_cases hn : n < a.length
  · rw [List.getElem?_eq_getElem hn, List.getElem?_eq_getElem (by omega)]; rfl
  · rw [List.getElem?_eq_none (by omega), List.getElem?_eq_none (by omega)]; simp
theorem abs_meet {a b : List Wd64} (h : a.length = b.length) : absB (meetW a b) = meetB (absB a) (absB b) := by
  have hl : (absB a).length = (absB b).length := by rw [absB_len, absB_len, h]
  refine ext_bits (by rw [absB_len, meetW_len h, meet_len hl, absB_len]) fun q hq => ?_
  rw [meet_get hl, absB_get, absB_get, absB_get]
  unfold bitW
  rw [meetW_get h, BitVec.getLsbD_and]
theorem abs_inj {a b : List Wd64} (hl : a.length = b.length) (h : absB a = absB b) : a = b := by
  apply List.ext_getElem hl
  intro n h1 h2
  apply BitVec.eq_of_getLsbD_eq
  intro i hi
  have : (absB a).getD (64 * n + i) false = (absB b).getD (64 * n + i) false := by rw [h]
  rw [absB_get, absB_get] at this
  unfold bitW at this
  rw [show (64 * n + i) / 64 = n by omega, show (64 * n + i) % 64 = i by omega] at this
  simpa [h1, h2] using this
def mixW (a b : List Wd64) (n : Nat) : List Wd64 := (meetW a b).take n ++ a.drop n
theorem mixW_0 (a b : List Wd64) : mixW a b 0 = a := rfl
theorem mixW_len {a b : List Wd64} (h : a.length = b.length) (n : Nat) : (mixW a b n).length = a.length := by
  unfold mixW
  rw [List.length_append, List.length_take, List.length_drop, meetW_len h]
  omega
theorem mixW_all {a b : List Wd64} (h : a.length = b.length) {n : Nat} (hn : a.length ≤ n) : mixW a b n = meetW a b := by
  unfold mixW
  rw [List.drop_of_length_le hn, List.append_nil, List.take_of_length_le (by rw [meetW_len h]; exact hn)]
theorem mixW_at {a b : List Wd64} (h : a.length = b.length) {n m : Nat} (hm : n ≤ m) : (mixW a b n).getD m 0#64 = a.getD m 0#64 := by
  unfold mixW
  simp only [List.getD_eq_getElem?_getD]
  by_cases hn : n ≤ a.length
  · rw [List.getElem?_append_right (by rw [List.length_take, meetW_len h]; omega), List.length_take, meetW_len h, Nat.min_eq_left hn, List.getElem?_drop, show n + (m - n) = m by omega]
  · rw [List.getElem?_eq_none (by rw [List.length_append, List.length_take, List.length_drop, meetW_len h]; omega), List.getElem?_eq_none (by omega)]
theorem mixW_succ {a b : List Wd64} (h : a.length = b.length) {n : Nat} (hn : n < a.length) : mixW a b (n + 1) = (mixW a b n).set n (a.getD n 0#64 &&& b.getD n 0#64) := by
  have hl : ((meetW a b).take n).length = n := by rw [List.length_take, meetW_len h]; omega
  unfold mixW
  rw [List.set_append_right _ _ (by omega), hl, Nat.sub_self, List.drop_eq_getElem_cons hn, List.set_cons_zero, List.take_succ_eq_append_getElem (by rw [meetW_len h]; exact hn), List.append_assoc]
  congr 1
  rw [List.singleton_append]
  congr 1
  have := meetW_get h n
  simp only [List.getD_eq_getElem?_getD, List.getElem?_eq_getElem (show n < (meetW a b).length by rw [meetW_len h]; exact hn), Option.getD_some] at this
  rw [this]
  simp only [List.getD_eq_getElem?_getD]
theorem set_sameW {l : List Wd64} {n : Nat} (h : n < l.length) : l.set n (l.getD n 0#64) = l := by simp [h]
theorem mixW_same {a b : List Wd64} (h : a.length = b.length) {n : Nat} (hn : n < a.length) (hb : a.getD n 0#64 &&& b.getD n 0#64 = a.getD n 0#64) : mixW a b (n + 1) = mixW a b n := by
  rw [mixW_succ h hn, hb, ← mixW_at h (Nat.le_refl n)]
  exact set_sameW (by rw [mixW_len h]; exact hn)
theorem mixW_turn {a b : List Wd64} (h : a.length = b.length) {n : Nat} (hn : n < a.length) (hb : ¬ a.getD n 0#64 &&& b.getD n 0#64 = a.getD n 0#64) : mixW a b (n + 1) ≠ a := fun e => by
  have h1 : (mixW a b (n + 1)).getD n 0#64 = a.getD n 0#64 := by rw [e]
  rw [mixW_succ h hn, getD_setW (by rw [mixW_len h]; exact hn), if_pos rfl] at h1
  exact hb h1
theorem word_at {l : List Wd64} {n : Nat} (h : n < l.length) : (l.map zw)[n * 1 + 0]? = some (zw (l.getD n 0#64)) := by
  rw [Nat.mul_one, Nat.add_zero, List.getElem?_map, List.getElem?_eq_getElem h]
  simp [h]
theorem len_words {l : List Wd64} : (l.map zw).length = l.length * 1 := by simp
theorem mk_zero (n : Nat) : (List.replicate n (([Value.int .u64 0]).map T.v)).flatten = (List.replicate n 0#64).map zw := by
  induction n with
  | zero => rfl
  | succ n ih => rw [List.replicate_succ, List.flatten_cons, ih, List.replicate_succ]; rfl
theorem abs_zero (n : Nat) : absB (List.replicate n 0#64) = List.replicate (64 * n) false := by
  refine ext_bits (by rw [absB_len]; simp) fun q hq => ?_
  rw [absB_get]
  unfold bitW
  simp only [List.getD_eq_getElem?_getD, List.getElem?_replicate]
  split <;> split <;> simp
end Go.Proofs.Ytlfklgganokgdaa

namespace Go.Proofs.Ytlfklgganokgdaa
open Go Go.RowKit
set_option linter.unusedVariables false
set_option linter.unnecessarySimpa false
set_option linter.unusedSimpArgs false

set_option maxHeartbeats 400000 in
theorem has61 (A : Option Addr) (n c : Nat) (bs : List Wd64) (r : Nat) (hn : bs.length = n) (hr : r < 64 * n) (hb : n ≤ 1048576) :
    ACalls Try.prog 61 [.v (.slice A n c), .v (.int .i64 (r : Int))] [.row A n c 39 1 ((bs).map zw)] (fun t S => t = bv (bitW bs r) ∧ S = [.row A n c 39 1 ((bs).map zw)]) := by
  refine ACalls.intro Try.func61 rfl Try.ntmps61 (Nat.le_of_ble_eq_true rfl) rfl fun X w0 => ?_
  refine AW.rseq ?_
  refine Y1 (Yv.assign rfl eV) ?_
  refine nl ?_
  refine AW.rseq ?_
  refine Y1 (Yv.move rfl eV) ?_
  refine Y1 (Yv.move rfl eV) ?_
  refine Y1 (Yv.eqT (t' := .v (.int .i64 ((r / 64 : Nat) : Int))) (Yv.quoN_i64 rfl (E rfl rfl) (E rfl rfl) (fun hg => by omega)) rfl) ?_
  refine Y1 (Yv.indexRow (j := (r / 64)) rfl ss_101 (i := 0) rfl (E rfl rfl) (E rfl rfl) (fun hg => ⟨rfl, by omega⟩)) ?_
  refine Y1 (Yv.loadEp rfl ag_39 (i := 0) rfl (E rfl rfl) (fun hg => word_at (by first | omega | (simp only [Bool.or_eq_true, Bool.and_eq_true, Bool.or_eq_false_iff, Bool.and_eq_false_iff, Bool.not_eq_true', Bool.not_eq_false', decide_eq_true_eq, decide_eq_false_iff_not, Decidable.not_not] at hg; omega)))) ?_
  refine Y1 (Yv.move rfl eV) ?_
  refine Y1 (Yv.eqT (t' := .v (.int .i64 ((r % 64 : Nat) : Int))) (Yv.remN rfl (E rfl rfl) (E rfl rfl) (fun hg => by omega)) rfl) ?_
  refine Y1 (Yv.shrW rfl (E rfl rfl) (E rfl rfl) (Nat.mod_lt r (by decide))) ?_
  refine Y1 (Yv.andW (b := 1#64) rfl (E rfl rfl) (E rfl rfl)) ?_
  refine Y1 (Yv.eqlW (b := 1#64) rfl (E rfl rfl) (E rfl rfl)) ?_
  refine Y1 (Yv.assign rfl eV) ?_
  refine nl ?_
  refine AW.ret (retI (.tmp rfl .nil) ?_)
  refine ⟨?_, rfl⟩
  show bv _ = bv _
  rw [has_bit _ (Nat.mod_lt r (by decide))]
  rfl

set_option maxHeartbeats 400000 in
theorem put37 (A : Option Addr) (n c : Nat) (bs : List Wd64) (r : Nat) (hn : bs.length = n) (hr : r < 64 * n) (hb : n ≤ 1048576) :
    ACalls Try.prog 37 [.v (.slice A n c), .v (.int .i64 (r : Int))] [.row A n c 39 1 ((bs).map zw)] (fun t S => t = .tup [] ∧ S = [.row A n c 39 1 ((putW bs r).map zw)]) := by
  refine ACalls.intro Try.func37 rfl Try.ntmps37 (Nat.le_of_ble_eq_true rfl) rfl fun X w0 => ?_
  refine AW.regionP rfl ?_
  refine AWP.phase [true, true, true, true, true, true, true, true, true, true] 1 rfl (by kernel_rfl) (by kernel_rfl) ?_
  refine AWQ.y rfl rfl (B rfl) (Yv.move rfl (E rfl rfl)) ?_
  refine AWQ.y rfl rfl (B rfl) (Yv.move rfl (E rfl rfl)) ?_
  refine AWQ.y rfl rfl (B rfl) (Yv.eqT (t' := .v (.int .i64 ((r / 64 : Nat) : Int))) (Yv.quoN_i64 rfl (E rfl rfl) (E rfl rfl) (fun hg => by omega)) rfl) ?_
  refine AWQ.y rfl rfl (B rfl) (Yv.indexRow (j := (r / 64)) rfl ss_101 (i := 0) rfl (E rfl rfl) (E rfl rfl) (fun hg => ⟨rfl, by omega⟩)) ?_
  refine AWQ.y rfl rfl (B rfl) (Yv.loadEp rfl ag_39 (i := 0) rfl (E rfl rfl) (fun hg => word_at (by first | omega | (simp only [Bool.or_eq_true, Bool.and_eq_true, Bool.or_eq_false_iff, Bool.and_eq_false_iff, Bool.not_eq_true', Bool.not_eq_false', decide_eq_true_eq, decide_eq_false_iff_not, Decidable.not_not] at hg; omega)))) ?_
  refine AWQ.y rfl rfl (B rfl) (Yv.move rfl (E rfl rfl)) ?_
  refine AWQ.y rfl rfl (B rfl) (Yv.eqT (t' := .v (.int .i64 ((r % 64 : Nat) : Int))) (Yv.remN rfl (E rfl rfl) (E rfl rfl) (fun hg => by omega)) rfl) ?_
  refine AWQ.y rfl rfl (B rfl) (Yv.shlW (a := 1#64) rfl (E rfl rfl) (E rfl rfl) (Nat.mod_lt r (by decide))) ?_
  refine AWQ.y rfl rfl (B rfl) (Yv.orW rfl (E rfl rfl) (E rfl rfl)) ?_
  refine AWQ.y rfl rfl (B rfl) (Yv.indexRow (j := (r / 64)) rfl ss_101 (i := 0) rfl (E rfl rfl) (E rfl rfl) (fun hg => ⟨rfl, by omega⟩)) ?_
  refine AWQ.nil ?_
  refine AWP.one (i := 10) (by kernel_rfl) rfl ?_
  refine AWL.storeEp1 (i := 0) rfl rfl rfl ag_39 rfl (E rfl rfl) (E rfl rfl) rfl rfl (by rw [List.length_map]; omega) ?_
  refine nl ?_
  refine AWP.done (by kernel_rfl) ?_
  refine retN .nil ?_
  refine ⟨rfl, ?_⟩
  unfold putW
  rw [← map_set, Nat.mul_one]
  rfl

set_option maxHeartbeats 1000000 in
theorem meet59 (A A2 : Option Addr) (n n2 c c2 : Nat) (bs bt : List Wd64) (hn : bs.length = n) (hn2 : bt.length = n2) (hnn : n = n2) (hb : n ≤ 1048576) :
    ACalls Try.prog 59 [.v (.slice A n c), .v (.slice A2 n2 c2)] [.row A n c 39 1 ((bs).map zw), .row A2 n2 c2 39 1 ((bt).map zw)] (fun t S => t = bv (!decide (meetW bs bt = bs)) ∧ S = [.row A n c 39 1 ((meetW bs bt).map zw), .row A2 n2 c2 39 1 ((bt).map zw)]) := by
  subst hnn
  have hl : bs.length = bt.length := by omega
  refine ACalls.intro Try.func59 rfl Try.ntmps59 (Nat.le_of_ble_eq_true rfl) rfl fun X w0 => ?_
  refine AW.rseq ?_
  refine Y1 (Yv.assign rfl eV) ?_
  refine nl ?_
  refine AW.rseq ?_
  refine Y1 (Yv.assign rfl eV) ?_
  refine nl ?_
  refine AW.seq ?_
  refine AW.rseq ?_
  refine Y1 (Yv.move rfl eV) ?_
  refine Y1 (Yv.lenV rfl so_101 (E rfl rfl)) ?_
  refine Y1 (Yv.move rfl eV) ?_
  refine nl ?_
  refine AW.block ?_
  refine AW.loop (fun (j : Nat) => [(0, true, .v (.slice A n c)), (1, true, .v (.slice A2 n c2)), (5, true, bv (!decide (mixW bs bt j = bs))), (9, true, .v (.int .i64 (n : Int))), (10, true, .v (.int .i64 (j : Int)))]) (fun (j : Nat) => [.row A n c 39 1 ((mixW bs bt j).map zw), .row A2 n c2 39 1 ((bt).map zw)]) (fun (j : Nat) => j ≤ n) (fun (j : Nat) => n - j) 0 ?_ ?_ ?_ ?_
  · exact Nat.zero_le _
  · exact (Sub.cons rfl rfl (Sub.cons rfl rfl (Sub.cons rfl (by rw [mixW_0]; simp; rfl) (Sub.cons rfl rfl (Sub.cons rfl rfl Sub.nil)))))
  · rfl
  ·
    intro j hinv
    refine AW.rseq ?_
    refine Y1 (Yv.lss rfl eV eV) ?_
    refine nl ?_
    refine AW.seq ?_
    refine AW.cond rfl (fun h0t => ?_) (fun h0f => ?_)
    ·
      try replace h0t := of_decide_eq_true h0t
      have hj2 : j < bs.length := by omega
      refine AW.skip ?_
      refine AW.seq ?_
      refine AW.block ?_
      refine AW.rseq ?_
      refine Y1 (Yv.move rfl eV) ?_
      refine Y1 (Yv.assign rfl eV) ?_
      refine nl ?_
      refine AW.rseqQ rfl (by kernel_rfl) ?_
      refine AWQ.y rfl rfl (B rfl) (Yv.move rfl (E rfl rfl)) ?_
      refine AWQ.y rfl rfl (B rfl) (Yv.move rfl (E rfl rfl)) ?_
      refine AWQ.y rfl rfl (B rfl) (Yv.indexRow rfl ss_101 (i := 0) rfl (E rfl rfl) (E rfl rfl) (fun hg => ⟨rfl, by omega⟩)) ?_
      refine AWQ.y rfl rfl (B rfl) (Yv.loadEp rfl ag_39 (i := 0) rfl (E rfl rfl) (fun hg => word_at (by rw [mixW_len hl]; omega))) ?_
      refine AWQ.y rfl rfl (B rfl) (Yv.move rfl (E rfl rfl)) ?_
      refine AWQ.y rfl rfl (B rfl) (Yv.move rfl (E rfl rfl)) ?_
      refine AWQ.y rfl rfl (B rfl) (Yv.indexRow rfl ss_101 (i := 1) rfl (E rfl rfl) (E rfl rfl) (fun hg => ⟨rfl, by omega⟩)) ?_
      refine AWQ.y rfl rfl (B rfl) (Yv.loadEp rfl ag_39 (i := 1) rfl (E rfl rfl) (fun hg => word_at (by first | omega | (simp only [Bool.or_eq_true, Bool.and_eq_true, Bool.or_eq_false_iff, Bool.and_eq_false_iff, Bool.not_eq_true', Bool.not_eq_false', decide_eq_true_eq, decide_eq_false_iff_not, Decidable.not_not] at hg; omega)))) ?_
      refine AWQ.y rfl rfl (B rfl) (Yv.andW rfl (E rfl rfl) (E rfl rfl)) ?_
      refine AWQ.y rfl rfl (B rfl) (Yv.assign rfl (E rfl rfl)) ?_
      refine AWQ.nil ?_
      refine AW.rseq ?_
      refine Y1 (Yv.move rfl eV) ?_
      refine Y1 (Yv.move rfl eV) ?_
      refine Y1 (Yv.move rfl eV) ?_
      refine Y1 (Yv.indexRow rfl ss_101 (i := 0) rfl (E rfl rfl) (E rfl rfl) (fun hg => ⟨rfl, by omega⟩)) ?_
      refine Y1 (Yv.loadEp rfl ag_39 (i := 0) rfl (E rfl rfl) (fun hg => word_at (by rw [mixW_len hl]; omega))) ?_
      refine Y1 (Yv.neqW rfl (E rfl rfl) (E rfl rfl)) ?_
      refine nl ?_
      refine AW.cond rfl (fun h1t => ?_) (fun h1f => ?_)
      ·
        try replace h1t := of_decide_eq_true h1t
        have h1t : ¬ bs.getD j 0#64 &&& bt.getD j 0#64 = bs.getD j 0#64 := by
          rw [mixW_at hl (Nat.le_refl j)] at h1t
          simpa using h1t
        refine AW.region ?_
        refine Y1 (Yv.move rfl eV) ?_
        refine Y1 (Yv.move rfl eV) ?_
        refine Y1 (Yv.move rfl eV) ?_
        refine Y1 (Yv.indexRow rfl ss_101 (i := 0) rfl (E rfl rfl) (E rfl rfl) (fun hg => ⟨rfl, by omega⟩)) ?_
        refine AWL.storeEp1 (i := 0) rfl rfl rfl ag_39 rfl (E rfl rfl) (E rfl rfl) rfl rfl (by rw [List.length_map, mixW_len hl]; omega) ?_
        refine Y1 (Yv.assign rfl eV) ?_
        refine nl ?_
        refine AW.region ?_
        refine Y1 (Yv.addN_i64 rfl (E rfl rfl) (E rfl rfl) (fun hg => by omega)) ?_
        refine Y1 (Yv.move rfl eV) ?_
        refine nl ?_
        refine ⟨j + 1, by omega, by omega, (Sub.cons rfl rfl (Sub.cons rfl rfl (Sub.cons rfl (by rw [decide_eq_false (mixW_turn hl hj2 h1t)]; rfl) (Sub.cons rfl rfl (Sub.cons rfl (by simp) Sub.nil))))), ?_⟩
        rw [mixW_succ hl hj2, ← map_set, Nat.mul_one, ← mixW_at hl (Nat.le_refl j)]
        rfl
      ·
        try replace h1f := of_decide_eq_false h1f
        have h1f : bs.getD j 0#64 &&& bt.getD j 0#64 = bs.getD j 0#64 := by
          rw [mixW_at hl (Nat.le_refl j)] at h1f
          simpa using h1f
        refine AW.skip ?_
        refine AW.region ?_
        refine Y1 (Yv.addN_i64 rfl (E rfl rfl) (E rfl rfl) (fun hg => by omega)) ?_
        refine Y1 (Yv.move rfl eV) ?_
        refine nl ?_
        refine ⟨j + 1, by omega, by omega, (Sub.cons rfl rfl (Sub.cons rfl rfl (Sub.cons rfl (by rw [mixW_same hl hj2 h1f]) (Sub.cons rfl rfl (Sub.cons rfl (by simp) Sub.nil))))), by rw [mixW_same hl hj2 h1f]⟩
    ·
      try replace h0f := of_decide_eq_false h0f
      have hjn : bs.length ≤ j := by omega
      refine AW.exit ?_
      refine AW.rseq ?_
      refine Y1 (Yv.move rfl eV) ?_
      refine Y1 (Yv.assign rfl eV) ?_
      refine nl ?_
      refine AW.ret (retI (.tmp rfl .nil) ?_)
      refine ⟨?_, ?_⟩
      · show bv _ = bv _
        rw [mixW_all hl hjn]
      · rw [mixW_all hl hjn]

set_option maxHeartbeats 400000 in
theorem stepfn60 (b7 b6 : Nat) (A : Option Addr) (n c : Nat) (bs : List Wd64) (fine : Bool) (r : Int) (h0 : 0 ≤ r) (hn : bs.length = n) (hr : r < 64 * n) (hb : n ≤ 1048576) :
    ACalls Try.prog 60 [zi r, .v (.pointer (some ⟨b7, 0, none⟩)), .v (.pointer (some ⟨b6, 0, none⟩))] [.row A n c 39 1 ((bs).map zw), .box b7 4 [bv (fine)], .box b6 101 [.v (.slice A n c)]] (fun t S => t = .tup [] ∧ S = [.row A n c 39 1 ((bs).map zw), .box b7 4 [bv (fine && bitW bs r.toNat)], .box b6 101 [.v (.slice A n c)]]) := by
  obtain ⟨q, rfl⟩ := Int.eq_ofNat_of_zero_le h0
  refine ACalls.intro Try.func60 rfl Try.ntmps60 (Nat.le_of_ble_eq_true rfl) rfl fun X w0 => ?_
  refine AW.region ?_
  refine Y1 (Yv.loadBox rfl ag_4 (i := 1) rfl (E rfl rfl) rfl) ?_
  refine Y1 (Yv.move rfl eV) ?_
  refine AWL.ygT rfl rfl rfl rfl (B rfl) (Yv.loadBox rfl ag_101 (i := 2) rfl (E rfl rfl) rfl) ?_
  refine AWL.ygT rfl rfl rfl rfl (B rfl) (Yv.move rfl (E rfl rfl)) ?_
  refine AWL.callKgT rfl rfl rfl rfl (B rfl) rfl ce_61 (E rfl rfl) (evsC (Eg rfl rfl id) (evsC (Eg rfl rfl id) evs0)) (S1 := [.row A n c 39 1 ((bs).map zw)]) (S2 := _) rfl (fun hg => has61 A n c bs q hn (by omega) hb) (fun t S h => h) ?_
  refine Y1 (Yv.pickAnd rfl (E rfl rfl) (Eg rfl rfl id)) ?_
  refine AWL.storeBox (i := 1) rfl rfl rfl ag_4 rfl (E rfl rfl) (E rfl rfl) rfl rfl (Nat.le_of_ble_eq_true rfl) ?_
  refine nl ?_
  refine retN .nil ?_
  exact ⟨rfl, rfl⟩

set_option maxHeartbeats 4000000 in
theorem reads49S_ (p : Prog) (f : Fn) (many : LM) (i : Ins) (b7 b6 : Nat) (A : Option Addr) (n c : Nat) (bs : List Wd64) (fine : Bool) (hi : InsOk p f many i) (ha : i.args.length ≤ 1048576) (hn : bs.length = n) (hr : f.regs ≤ 64 * n) (hb : n ≤ 1048576) :
    ACalls Try.prog 49 [.agg (insCells i), .v (.func (.func 60) #[] #[.pointer (some ⟨b7, 0, none⟩), .pointer (some ⟨b6, 0, none⟩)])] [.row A n c 39 1 ((bs).map zw), .box b7 4 [bv (fine)], .box b6 101 [.v (.slice A n c)]] (fun t S => t = .tup [] ∧ ([.row A n c 39 1 ((bs).map zw), .box b7 4 [bv (fine && (readsF i).all fun r => bitW bs r.toNat)], .box b6 101 [.v (.slice A n c)]] : St).Sublist S) := by
  refine ACalls.intro Try.func49 rfl Try.ntmps49 (Nat.le_of_ble_eq_true rfl) rfl fun X w0 => ?_
  refine AW.rseq ?_
  refine AWL.boxOp rfl rfl (B rfl) rfl (E rfl rfl) rfl (fun b2 => ?_)
  refine nl ?_
  refine AW.rseq ?_
  refine Y1 (Yv.fieldBox rfl fo_58_0 eV) ?_
  refine Y1 (Yv.loadBox rfl ag_3 (i := 3) rfl (E rfl rfl) rfl) ?_
  refine AWL.callT rfl rfl (B rfl) rfl ce_57 (E rfl rfl) (evsC (E rfl rfl) evs0) (fields57 i.kind) ?_
  rintro t11 S11 rfl
  refine Y1 (Yv.move rfl eV) ?_
  refine Y1 (Yv.extract rfl eV rfl) ?_
  refine Y1 (Yv.extract rfl eV rfl) ?_
  refine AWL.allocOp rfl rfl (B rfl) rfl zc_122 (fun b4 => ?_)
  refine AWL.storeBox (i := 4) rfl rfl rfl ag_122 rfl (E rfl rfl) (E rfl rfl) rfl rfl (Nat.le_of_ble_eq_true rfl) ?_
  refine Y1 (Yv.assign rfl eV) ?_
  refine nl ?_
  refine AW.eqS (S' := [.row A n c 39 1 ((bs).map zw), .box b7 4 [bv (fine)], .box b6 101 [.v (.slice A n c)], .box b2 58 (insCells i), .box b4 122 (hasCells (hasF i.kind))]) rfl ?_
  refine AW.mid (α := Unit) (fun _ => [(1, true, .v (.func (.func 60) #[] #[.pointer (some ⟨b7, 0, none⟩), .pointer (some ⟨b6, 0, none⟩)])), (2, true, .v (.pointer (some ⟨b2, 0, none⟩))), (4, true, .v (.pointer (some ⟨b4, 0, none⟩)))]) (fun _ => [.row A n c 39 1 ((bs).map zw), .box b7 4 [bv (fine && (rd1 i).all fun r => bitW bs r.toNat)], .box b6 101 [.v (.slice A n c)], .box b2 58 (insCells i), .box b4 122 (hasCells (hasF i.kind))]) (fun _ => True) ?_ ?_
  ·
    refine AW.rseq ?_
    refine Y1 (Yv.fieldBox rfl fo_122_1 eV) ?_
    refine Y1 (Yv.loadBox rfl ag_4 (i := 4) rfl (E rfl rfl) rfl) ?_
    refine nl ?_
    refine AW.cond rfl (fun h0t => ?_) (fun h0f => ?_)
    ·
      try replace h0t := of_decide_eq_true h0t
      refine AW.region ?_
      refine Y1 (Yv.move rfl eV) ?_
      refine Y1 (Yv.fieldBox rfl fo_58_2 eV) ?_
      refine Y1 (Yv.loadBox rfl ag_3 (i := 3) rfl (E rfl rfl) rfl) ?_
      refine C1 rfl ce_60 (E rfl rfl) (evsC (E rfl rfl) evs0) (S1 := [.row A n c 39 1 ((bs).map zw), .box b7 4 [bv (fine)], .box b6 101 [.v (.slice A n c)]]) (S2 := _) rfl (stepfn60 b7 b6 A n c bs (fine) i.a (hi.a h0t).1 hn (by have := (hi.a h0t).2; omega) hb) ?_
      rintro t19 S19 ⟨rfl, rfl⟩
      refine nl ?_
      refine ⟨(), trivial, (Sub.cons rfl rfl (Sub.cons rfl rfl (Sub.cons rfl rfl Sub.nil))), ?_⟩
      rw [rd1_t h0t]
      simp [List.all_append, Bool.and_assoc]
    ·
      try replace h0f := of_decide_eq_false h0f
      refine AW.skip ?_
      refine ⟨(), trivial, (Sub.cons rfl rfl (Sub.cons rfl rfl (Sub.cons rfl rfl Sub.nil))), ?_⟩
      rw [rd1_f h0f]
      simp
  ·
    rintro _ hmid
    refine AW.mid (α := Unit) (fun _ => [(1, true, .v (.func (.func 60) #[] #[.pointer (some ⟨b7, 0, none⟩), .pointer (some ⟨b6, 0, none⟩)])), (2, true, .v (.pointer (some ⟨b2, 0, none⟩))), (4, true, .v (.pointer (some ⟨b4, 0, none⟩)))]) (fun _ => [.row A n c 39 1 ((bs).map zw), .box b7 4 [bv (fine && (rd2 i).all fun r => bitW bs r.toNat)], .box b6 101 [.v (.slice A n c)], .box b2 58 (insCells i), .box b4 122 (hasCells (hasF i.kind))]) (fun _ => True) ?_ ?_
    ·
      refine AW.rseq ?_
      refine Y1 (Yv.fieldBox rfl fo_122_2 eV) ?_
      refine Y1 (Yv.loadBox rfl ag_4 (i := 4) rfl (E rfl rfl) rfl) ?_
      refine nl ?_
      refine AW.cond rfl (fun h1t => ?_) (fun h1f => ?_)
      ·
        try replace h1t := of_decide_eq_true h1t
        refine AW.region ?_
        refine Y1 (Yv.move rfl eV) ?_
        refine Y1 (Yv.fieldBox rfl fo_58_3 eV) ?_
        refine Y1 (Yv.loadBox rfl ag_3 (i := 3) rfl (E rfl rfl) rfl) ?_
        refine C1 rfl ce_60 (E rfl rfl) (evsC (E rfl rfl) evs0) (S1 := [.row A n c 39 1 ((bs).map zw), .box b7 4 [bv (fine && (rd1 i).all fun r => bitW bs r.toNat)], .box b6 101 [.v (.slice A n c)]]) (S2 := _) rfl (stepfn60 b7 b6 A n c bs (fine && (rd1 i).all fun r => bitW bs r.toNat) i.b (hi.b h1t).1 hn (by have := (hi.b h1t).2; omega) hb) ?_
        rintro t25 S25 ⟨rfl, rfl⟩
        refine nl ?_
        refine ⟨(), trivial, (Sub.cons rfl rfl (Sub.cons rfl rfl (Sub.cons rfl rfl Sub.nil))), ?_⟩
        rw [rd2_t h1t]
        simp [List.all_append, Bool.and_assoc]
      ·
        try replace h1f := of_decide_eq_false h1f
        refine AW.skip ?_
        refine ⟨(), trivial, (Sub.cons rfl rfl (Sub.cons rfl rfl (Sub.cons rfl rfl Sub.nil))), ?_⟩
        rw [rd2_f h1f]
    ·
      rintro _ hmid
      refine AW.rseq ?_
      refine Y1 (Yv.fieldBox rfl fo_122_3 eV) ?_
      refine Y1 (Yv.loadBox rfl ag_4 (i := 4) rfl (E rfl rfl) rfl) ?_
      refine nl ?_
      refine AW.cond rfl (fun h2t => ?_) (fun h2f => ?_)
      ·
        try replace h2t := of_decide_eq_true h2t
        refine AW.rseq ?_
        refine Y1 (Yv.fieldBox rfl fo_58_10 eV) ?_
        refine Y1 (Yv.loadBox rfl ag_47 (i := 3) rfl (E rfl rfl) rfl) ?_
        refine Y1 (Yv.lenSl rfl so_47 (B rfl) (E rfl rfl) len_args) ?_
        refine Y1 (Yv.move rfl eV) ?_
        refine nl ?_
        refine AW.block ?_
        refine AW.loop (fun (j : Nat) => [(1, true, .v (.func (.func 60) #[] #[.pointer (some ⟨b7, 0, none⟩), .pointer (some ⟨b6, 0, none⟩)])), (2, true, .v (.pointer (some ⟨b2, 0, none⟩))), (4, true, .v (.pointer (some ⟨b4, 0, none⟩))), (29, true, .sl 1 (i.args.map zi)), (30, true, .v (.int .i64 (i.args.length : Int))), (31, true, .v (.int .i64 (j : Int)))]) (fun (j : Nat) => [.row A n c 39 1 ((bs).map zw), .box b7 4 [bv (fine && (rd2 i ++ i.args.take j).all fun r => bitW bs r.toNat)], .box b6 101 [.v (.slice A n c)], .box b2 58 (insCells i), .box b4 122 (hasCells (hasF i.kind))]) (fun (j : Nat) => j ≤ i.args.length) (fun (j : Nat) => i.args.length - j) 0 ?_ ?_ ?_ ?_
        · exact Nat.zero_le _
        · exact (Sub.cons rfl rfl (Sub.cons rfl rfl (Sub.cons rfl rfl (Sub.cons rfl rfl (Sub.cons rfl rfl (Sub.cons rfl rfl Sub.nil))))))
        · rw [List.take_zero, List.append_nil]
        ·
          intro j hinv
          refine AW.rseq ?_
          refine Y1 (Yv.lss rfl eV eV) ?_
          refine nl ?_
          refine AW.seq ?_
          refine AW.cond rfl (fun h3t => ?_) (fun h3f => ?_)
          ·
            try replace h3t := of_decide_eq_true h3t
            have hj2 : j < i.args.length := by omega
            refine AW.skip ?_
            refine AW.seq ?_
            refine AW.block ?_
            refine AW.rseq ?_
            refine Y1 (Yv.indexSl rfl ss_47 (B rfl) (E rfl rfl) (E rfl rfl) (fun hg => ⟨rfl, (by first | omega | (simp only [len_code, len_funs, len_args, len_data]; omega))⟩)) ?_
            refine Y1 (Yv.loadRp rfl ag_3 (E rfl rfl) (fun hg => arg_at (by omega))) ?_
            refine Y1 (Yv.assign rfl eV) ?_
            refine nl ?_
            refine AW.region ?_
            refine Y1 (Yv.move rfl eV) ?_
            refine Y1 (Yv.move rfl eV) ?_
            refine C1 rfl ce_60 (E rfl rfl) (evsC (E rfl rfl) evs0) (S1 := [.row A n c 39 1 ((bs).map zw), .box b7 4 [bv (fine && (rd2 i ++ i.args.take j).all fun r => bitW bs r.toNat)], .box b6 101 [.v (.slice A n c)]]) (S2 := _) rfl (stepfn60 b7 b6 A n c bs (fine && (rd2 i ++ i.args.take j).all fun r => bitW bs r.toNat) (i.args.getD j default) ((hi.args h2t).1 _ (getD_mem hj2)).1 hn (by have := ((hi.args h2t).1 _ (getD_mem hj2)).2; omega) hb) ?_
            rintro t37 S37 ⟨rfl, rfl⟩
            refine nl ?_
            refine AW.region ?_
            refine Y1 (Yv.addN_i64 rfl (E rfl rfl) (E rfl rfl) (fun hg => by omega)) ?_
            refine Y1 (Yv.move rfl eV) ?_
            refine nl ?_
            refine ⟨j + 1, by omega, by omega, (Sub.cons rfl rfl (Sub.cons rfl rfl (Sub.cons rfl rfl (Sub.cons rfl rfl (Sub.cons rfl rfl (Sub.cons rfl (by simp) Sub.nil)))))), ?_⟩
            rw [take_gd hj2]
            simp [List.all_append, Bool.and_assoc]
          ·
            try replace h3f := of_decide_eq_false h3f
            obtain rfl : j = i.args.length := by omega
            rw [List.take_length, ← rd3_t h2t]
            refine AW.exit ?_
            refine retN .nil ?_
            exact ⟨rfl, by simp⟩
      ·
        try replace h2f := of_decide_eq_false h2f
        refine AW.skip ?_
        refine retN .nil ?_
        rw [← rd3_f h2f]
        exact ⟨rfl, by simp⟩

theorem reads49S (p : Prog) (f : Fn) (many : LM) (i : Ins) (b7 b6 : Nat) (A : Option Addr) (n c : Nat) (bs : List Wd64) (fine : Bool) (hi : InsOk p f many i) (ha : i.args.length ≤ 1048576) (hn : bs.length = n) (hr : f.regs ≤ 64 * n) (hb : n ≤ 1048576) : ACalls Try.prog 49 [.agg (insCells i), .v (.func (.func 60) #[] #[.pointer (some ⟨b7, 0, none⟩), .pointer (some ⟨b6, 0, none⟩)])] [.row A n c 39 1 ((bs).map zw), .box b7 4 [bv (fine)], .box b6 101 [.v (.slice A n c)]] (fun t S => t = .tup [] ∧ S = [.row A n c 39 1 ((bs).map zw), .box b7 4 [bv (fine && (readsF i).all fun r => bitW bs r.toNat)], .box b6 101 [.v (.slice A n c)]]) :=
  (reads49S_ p f many i b7 b6 A n c bs fine hi ha hn hr hb).less fun t S' ⟨h1, h2⟩ => ⟨_, h2, h1, rfl⟩
end Go.Proofs.Ytlfklgganokgdaa

namespace Go.Proofs.Ytlfklgganokgdaa
open Go Go.RowKit
set_option linter.unusedSimpArgs false
set_option linter.unusedVariables false
structure Sw where
  A : Option Addr
  c : Nat
  v : Option (List Wd64)
  deriving Inhabited
def Sw.ws (s : Sw) : List Wd64 := s.v.getD []
def swCell (s : Sw) : T := .v (.slice s.A s.ws.length s.c)
def swRow (s : Sw) : Ent := .row s.A s.ws.length s.c 39 1 (s.ws.map zw)
def swOk (s : Sw) : Prop := s.A.isSome = s.v.isSome
def famW (l : List Sw) : Fam := l.map fun s => s.v.map absB
theorem fam_atW {l : List Sw} {k : Nat} (h : k < l.length) : famAt (famW l) k = (l.getD k default).v.map absB := by
  unfold famAt famW
  rw [gd h]
  simp [h]
theorem sw_row {l : List Sw} {k : Nat} (h : k < l.length) : (l.map swRow)[k]? = some (swRow (l.getD k default)) := by
  rw [List.getElem?_map, List.getElem?_eq_getElem h, gd h]; rfl
theorem sw_cell {l : List Sw} {k : Nat} (h : k < l.length) : (l.map swCell)[k * 1 + 0]? = some (swCell (l.getD k default)) := by
  rw [Nat.mul_one, Nat.add_zero, List.getElem?_map, List.getElem?_eq_getElem h, gd h]; rfl
theorem sw_none {s : Sw} (h : swOk s) (hA : s.A.isNone = true) : s.v = none := by
  unfold swOk at h
  cases hv : s.v with
  | none => rfl
  | some a => rw [hv, Option.isNone_iff_eq_none.1 hA] at h; cases h
theorem sw_some {s : Sw} (h : swOk s) (hA : s.A.isNone = false) : s.v = some s.ws := by
  unfold swOk at h
  unfold Sw.ws
  cases hv : s.v with
  | some a => rfl
  | none =>
    rw [hv] at h
    cases hA2 : s.A with
    | none => rw [hA2] at hA; cases hA
    | some x => rw [hA2] at h; cases h
structure FS where
  sls : List Sw
  todo : List Nat
  tA : Option Addr
  tc : Nat
  deriving Inhabited
def zn (k : Nat) : T := .v (.int .i64 (k : Int))
def flCells (f : Fn) (m : Nat) (aA : Option Addr) (n : Nat) (fs : FS) : List T := fnCells f ++ [.v (.map (some m)), .v (.slice aA n n), .v (.slice fs.tA fs.todo.length fs.tc)]
def FSt (bw : Nat) (f : Fn) (m : Nat) (aA : Option Addr) (n : Nat) (fs : FS) : St := .box bw 100 (flCells f m aA n fs) :: .row aA n n 101 1 (fs.sls.map swCell) :: .row fs.tA fs.todo.length fs.tc 3 1 (fs.todo.map zn) :: fs.sls.map swRow
structure FOk (n K : Nat) (fs : FS) : Prop where
  len : fs.sls.length = n
  ok : ∀ s ∈ fs.sls, swOk s
  lenK : ∀ s ∈ fs.sls, ∀ ws, s.v = some ws → ws.length = K
structure ToR (n K : Nat) (fs : FS) (k : Nat) (out : List Bool) (fs' : FS) : Prop where
  ok : FOk n K fs'
  fam : famW fs'.sls = meetX (famW fs.sls) k out
  todo : fs'.todo = if chg (famW fs.sls) k out = true then fs.todo ++ [k] else fs.todo
theorem FOk.set {n K k : Nat} {fs : FS} {A : Option Addr} {c : Nat} {ws : List Wd64} {todo : List Nat} {tA : Option Addr} {tc : Nat} (h : FOk n K fs) (hA : A.isSome = true) (hl : ws.length = K) : FOk n K ⟨fs.sls.set k ⟨A, c, some ws⟩, todo, tA, tc⟩ :=
  ⟨by show (fs.sls.set _ _).length = n; rw [List.length_set]; exact h.len, fun s hs => by
    rcases List.mem_or_eq_of_mem_set hs with hs | rfl
    · exact h.ok s hs
    · exact hA, fun s hs ws' e => by
    rcases List.mem_or_eq_of_mem_set hs with hs | rfl
    · exact h.lenK s hs ws' e
    · simp only [Option.some.injEq] at e
      rw [← e]; exact hl⟩
theorem to_nil {n K k : Nat} {fs : FS} {A : Option Addr} {c : Nat} {ws : List Wd64} {tA : Option Addr} {tc : Nat} (h : FOk n K fs) (hk : k < fs.sls.length) (hv : (fs.sls.getD k default).v = none) (hA : A.isSome = true) (hl : ws.length = K) :
    ToR n K fs k (absB ws) ⟨fs.sls.set k ⟨A, c, some ws⟩, fs.todo ++ [k], tA, tc⟩ := by
  refine ⟨h.set hA hl, ?_, ?_⟩
  · unfold meetX
    rw [fam_atW hk, hv]
    unfold famW
    rw [List.map_set]
    rfl
  · unfold chg
    rw [fam_atW hk, hv]
    rfl
theorem to_some {n K k : Nat} {fs : FS} {wk ws : List Wd64} {todo : List Nat} {tA : Option Addr} {tc : Nat} (h : FOk n K fs) (hk : k < fs.sls.length) (hv : (fs.sls.getD k default).v = some wk) (hl : ws.length = K) (ht : todo = if (!decide (meetW wk ws = wk)) = true then fs.todo ++ [k] else fs.todo) :
    ToR n K fs k (absB ws) ⟨fs.sls.set k ⟨(fs.sls.getD k default).A, (fs.sls.getD k default).c, some (meetW wk ws)⟩, todo, tA, tc⟩ := by
  have hwk := h.lenK _ (getD_mem hk) wk hv
  have hA := h.ok _ (getD_mem hk)
  unfold swOk at hA
  rw [hv] at hA
  have he : wk.length = ws.length := by omega
  refine ⟨h.set hA (by rw [meetW_len he]; exact hwk), ?_, ?_⟩
  · unfold meetX
    rw [fam_atW hk, hv]
    unfold famW
    rw [List.map_set]
    show List.set _ _ (some (absB (meetW wk ws))) = _
    rw [abs_meet he]
    rfl
  · show todo = _
    rw [ht]
    unfold chg
    rw [fam_atW hk, hv]
    have e : decide (meetB (absB wk) (absB ws) = absB wk) = decide (meetW wk ws = wk) := by
      apply decide_eq_decide.2
      rw [← abs_meet he]
      exact ⟨fun q => abs_inj (meetW_len he) q, fun q => by rw [q]⟩
    show _ = if (!decide (meetB (absB wk) (absB ws) = absB wk)) = true then _ else _
    rw [e]
theorem sw_rows {sls : List Sw} {k n : Nat} {A : Option Addr} {c : Nat} {x : List Wd64} (hx : x.length = n) : (sls.set k ⟨A, c, some x⟩).map swRow = (sls.map swRow).set k (.row A n c 39 1 (x.map zw)) := by
  rw [List.map_set]
  subst hx
  rfl
theorem sw_cells {sls : List Sw} {k : Nat} {x : List Wd64} (hk : k < sls.length) (hx : x.length = (sls.getD k default).ws.length) : (sls.set k ⟨(sls.getD k default).A, (sls.getD k default).c, some x⟩).map swCell = sls.map swCell := by
  rw [List.map_set]
  have e : swCell ⟨(sls.getD k default).A, (sls.getD k default).c, some x⟩ = swCell (sls.getD k default) := by
    unfold swCell
    show T.v (.slice _ x.length _) = _
    rw [hx]
  rw [e, gd hk]
  have : (sls.map swCell)[k]? = some (swCell sls[k]) := by rw [List.getElem?_map, List.getElem?_eq_getElem hk]; rfl
  obtain ⟨h1, h2⟩ := List.getElem?_eq_some_iff.1 this
  rw [← h2, List.set_getElem_self]
theorem sw_cell_set {sls : List Sw} {k n : Nat} {A : Option Addr} {c : Nat} {x : List Wd64} (hx : x.length = n) : (sls.set k ⟨A, c, some x⟩).map swCell = (sls.map swCell).set k (.v (.slice A n c)) := by
  rw [List.map_set]
  subst hx
  rfl
/-- One behind the other. -/
def Tos (n K : Nat) (out : List Bool) : List Nat → FS → FS → Prop
  | [], fs, fs' => fs' = fs
  | k :: r, fs, fs' => ∃ fs1, ToR n K fs k out fs1 ∧ Tos n K out r fs1 fs'
theorem Tos.app {n K : Nat} {out : List Bool} : ∀ {l l' : List Nat} {fs fs1 fs2 : FS}, Tos n K out l fs fs1 → Tos n K out l' fs1 fs2 → Tos n K out (l ++ l') fs fs2
  | [], _, _, _, _, h, h' => by rw [show _ = _ from h] at h'; exact h'
  | _ :: _, _, _, _, _, ⟨x, h1, h2⟩, h' => ⟨x, h1, Tos.app h2 h'⟩
theorem readOk_abs {R : Nat} {i : Ins} {ws : List Wd64} : readOkB R i (absB ws) = (((readsF i).all fun r => bitW ws r.toNat) && (!decide (i.kind = 31) || bitW ws (R + i.imm.toNat))) := by
  unfold readOkB
  rw [absB_get]
  congr 1
  congr 1
  funext r
  rw [absB_get]
def clrTo (ws : List Wd64) (j : Nat) : List Wd64 := (List.range j).foldl clrW ws
theorem clrTo_succ (ws : List Wd64) (j : Nat) : clrTo ws (j + 1) = clrW (clrTo ws j) j := by
  unfold clrTo
  rw [List.range_succ, List.foldl_append]
  rfl
theorem clrTo_len (ws : List Wd64) : ∀ j, (clrTo ws j).length = ws.length
  | 0 => rfl
  | j + 1 => by rw [clrTo_succ, clrW_len, clrTo_len ws j]
theorem clrTo_abs {ws : List Wd64} : ∀ {j : Nat}, j ≤ 64 * ws.length → absB (clrTo ws j) = List.replicate j false ++ (absB ws).drop j
  | 0, _ => rfl
  | j + 1, h => by
    rw [clrTo_succ, abs_clr (by rw [clrTo_len]; omega), clrTo_abs (by omega), rep_set (regs := 64 * ws.length) (by omega) (by rw [absB_len]; exact Nat.le_refl _)]
def wb1 (R : Nat) (i : Ins) (ws : List Wd64) : List Wd64 := if i.kind = 22 ∨ i.kind = 23 then clrTo ws R else ws
def wb2 (R : Nat) (i : Ins) (ws : List Wd64) : List Wd64 := if (hasF i.kind).d = true then putW (wb1 R i ws) i.d.toNat else wb1 R i ws
def wb3 (R : Nat) (i : Ins) (ws : List Wd64) : List Wd64 := if i.kind = 32 then putW (wb2 R i ws) (R + i.imm.toNat) else wb2 R i ws
theorem wb1_len {R : Nat} {i : Ins} {ws : List Wd64} : (wb1 R i ws).length = ws.length := by
  unfold wb1
  split
  · exact clrTo_len ws R
  · rfl
theorem wb2_len {R : Nat} {i : Ins} {ws : List Wd64} : (wb2 R i ws).length = ws.length := by
  unfold wb2
  split
  · rw [putW_len, wb1_len]
  · exact wb1_len
theorem wb3_len {R : Nat} {i : Ins} {ws : List Wd64} : (wb3 R i ws).length = ws.length := by
  unfold wb3
  split
  · rw [putW_len, wb2_len]
  · exact wb2_len
theorem wb3_abs {p : Prog} {f : Fn} {many : LM} {R : Nat} {i : Ins} {ws : List Wd64} (hR : f.regs = (R : Int)) (hi : InsOk p f many i) (hW : f.regs + f.slots ≤ 64 * ws.length) (hs : 0 ≤ f.slots) : absB (wb3 R i ws) = behindF R i (absB ws) := by
  have h1 : absB (wb1 R i ws) = bh1 R i (absB ws) := by
    unfold wb1 bh1
    split
    · exact clrTo_abs (by omega)
    · rfl
  have h2 : absB (wb2 R i ws) = bh2 R i (absB ws) := by
    unfold wb2 bh2
    split
    · rename_i hd
      have := hi.d hd
      rw [abs_put (by rw [wb1_len]; omega), h1]
    · exact h1
  unfold wb3 behindF
  split
  · rename_i hk
    have := hi.slot (.inr hk)
    rw [abs_put (by rw [wb2_len]; omega), h2]
  · exact h2
/-- What holds of all sets wider or narrower. -/
def SF (f : Fn) (W : Nat) : Prop := ∃ Y, Sol f f.regs.toNat W Y ∧ ReadsOk f f.regs.toNat Y
def rsz (W : Nat) (a : List Bool) : List Bool := (List.range W).map fun n => a.getD n false
theorem rsz_len (W : Nat) (a : List Bool) : (rsz W a).length = W := by unfold rsz; simp
theorem rsz_get {W : Nat} {a : List Bool} {n : Nat} (h : n < W) : (rsz W a).getD n false = a.getD n false := by
  unfold rsz
  simp [h]
theorem rsz_out {W : Nat} {a : List Bool} {n : Nat} (h : ¬ n < W) : (rsz W a).getD n false = false := by
  unfold rsz
  simp [h]
theorem behind_get {R : Nat} {i : Ins} {a : List Bool} {n : Nat} (hR : R ≤ a.length) : (behindF R i a).getD n false =
    if i.kind = 32 ∧ R + i.imm.toNat = n ∧ n < a.length then true else if (hasF i.kind).d = true ∧ i.d.toNat = n ∧ n < a.length then true else if (i.kind = 22 ∨ i.kind = 23) ∧ n < R then false else a.getD n false := by
  have h1 : (bh1 R i a).getD n false = if (i.kind = 22 ∨ i.kind = 23) ∧ n < R then false else a.getD n false := by
    unfold bh1
    split
    · rename_i h
      rw [getD_rep hR]
      by_cases hn : n < R
      · rw [if_pos hn, if_pos ⟨h, hn⟩]
      · rw [if_neg hn, if_neg (fun q => hn q.2)]
    · rename_i h; rw [if_neg (fun q => h q.1)]
  have h2 : (bh2 R i a).getD n false = if (hasF i.kind).d = true ∧ i.d.toNat = n ∧ n < a.length then true else if (i.kind = 22 ∨ i.kind = 23) ∧ n < R then false else a.getD n false := by
    unfold bh2
    split
    · rename_i h
      rw [getD_set, bh1_len hR, h1]
      by_cases e : i.d.toNat = n ∧ i.d.toNat < a.length
      · rw [if_pos e, if_pos ⟨h, e.1, by omega⟩]
      · rw [if_neg e, if_neg (show ¬ ((hasF i.kind).d = true ∧ i.d.toNat = n ∧ n < a.length) from fun q => e ⟨q.2.1, by omega⟩)]
    · rename_i h; rw [if_neg (show ¬ ((hasF i.kind).d = true ∧ i.d.toNat = n ∧ n < a.length) from fun q => h q.1), h1]
  unfold behindF
  split
  · rename_i h
    rw [getD_set, bh2_len hR, h2]
    by_cases e : R + i.imm.toNat = n ∧ R + i.imm.toNat < a.length
    · rw [if_pos e, if_pos ⟨h, e.1, by omega⟩]
    · rw [if_neg e, if_neg (show ¬ (i.kind = 32 ∧ R + i.imm.toNat = n ∧ n < a.length) from fun q => e ⟨q.2.1, by omega⟩)]
  · rename_i h; rw [if_neg (show ¬ (i.kind = 32 ∧ R + i.imm.toNat = n ∧ n < a.length) from fun q => h q.1), h2]
theorem first_get {R W P n : Nat} : (firstF R W P).getD n false = decide (n < P) := by
  unfold firstF
  simp only [List.getD_eq_getElem?_getD]
  by_cases h : n < P
  · rw [List.getElem?_append_left (by simpa using h)]; simp [h]
  · rw [List.getElem?_append_right (by simp; omega), List.getElem?_replicate]
    split <;> simp [h]
theorem fam_map {Y : Fam} {g : List Bool → List Bool} {k : Nat} : famAt (Y.map (Option.map g)) k = (famAt Y k).map g := by
  unfold famAt
  simp only [List.getD_eq_getElem?_getD, List.getElem?_map]
  cases Y[k]? <;> rfl
theorem SF_resize {p : Prog} {f : Fn} (hf : FnOk p f) {W1 W2 : Nat} (h1 : f.regs.toNat + f.slots.toNat ≤ W1) (h2 : f.regs.toNat + f.slots.toNat ≤ W2) (h : SF f W1) : SF f W2 := by
  obtain ⟨Y, hY, hr⟩ := h
  have hp2 := hf.par2
  have hp0 := hf.par0
  have hs0 := hf.slot0
  refine ⟨Y.map (Option.map (rsz W2)), ⟨by rw [List.length_map, hY.len], fun k a ha => ?_, ?_, fun k a hk ha l hl => ?_⟩, fun k a hk ha => ?_⟩
  · rw [fam_map] at ha
    cases hy : famAt Y k with
    | none => rw [hy] at ha; cases ha
    | some b => rw [hy] at ha; simp only [Option.map_some, Option.some.injEq] at ha; rw [← ha, rsz_len]
  · obtain ⟨a, ha, hle⟩ := hY.first
    refine ⟨rsz W2 a, by rw [fam_map, ha]; rfl, fun n hn => ?_⟩
    by_cases hw : n < W2
    · rw [rsz_get hw] at hn
      have := hle n hn
      rw [first_get] at this ⊢
      exact this
    · rw [rsz_out hw] at hn; cases hn
  · rw [fam_map] at ha
    cases hy : famAt Y k with
    | none => rw [hy] at ha; cases ha
    | some b =>
      rw [hy] at ha
      simp only [Option.map_some, Option.some.injEq] at ha
      subst ha
      have hb := hY.bits k b hy
      have hst := hY.step k b hk hy l hl
      rw [fam_map]
      cases hz : famAt Y l.toNat with
      | none => rw [hz] at hst; exact absurd hst id
      | some z =>
        rw [hz] at hst
        intro n hn
        by_cases hw : n < W2
        · rw [rsz_get hw] at hn
          have := hst n hn
          have hi := hf.ins _ (getD_mem hk)
          rw [behind_get (by omega)] at this
          rw [behind_get (by rw [rsz_len]; omega), rsz_len, rsz_get hw]
          by_cases c1 : (f.code.getD k default).kind = 32 ∧ f.regs.toNat + (f.code.getD k default).imm.toNat = n ∧ n < b.length
          · rw [if_pos ⟨c1.1, c1.2.1, hw⟩]
          · rw [if_neg c1] at this
            by_cases c2 : (hasF (f.code.getD k default).kind).d = true ∧ (f.code.getD k default).d.toNat = n ∧ n < b.length
            · split
              · rfl
              · rw [if_pos ⟨c2.1, c2.2.1, hw⟩]
            · rw [if_neg c2] at this
              split
              · rfl
              split
              · rfl
              exact this
        · rw [rsz_out hw] at hn; cases hn
  · rw [fam_map] at ha
    cases hy : famAt Y k with
    | none => rw [hy] at ha; cases ha
    | some b =>
      rw [hy] at ha
      simp only [Option.map_some, Option.some.injEq] at ha
      subst ha
      have hb := hr k b hk hy
      have hi := hf.ins _ (getD_mem hk)
      unfold readOkB at hb ⊢
      rw [Bool.and_eq_true, List.all_eq_true, Bool.or_eq_true] at hb ⊢
      refine ⟨fun r hr' => ?_, ?_⟩
      · have := reads_in hi r hr'
        rw [rsz_get (by omega)]
        exact hb.1 r hr'
      · rcases hb.2 with q | q
        · exact .inl q
        · by_cases h31 : (f.code.getD k default).kind = 31
          · have := hi.slot (.inl h31)
            rw [rsz_get (by omega)]
            exact .inr q
          · left; rw [decide_eq_false h31]; rfl
theorem strictF_at {p : Prog} {f : Fn} (hf : FnOk p f) {W : Nat} (h : f.regs.toNat + f.slots.toNat ≤ W) : StrictF f ↔ SF f W := ⟨fun q => SF_resize hf (Nat.le_refl _) h q, fun q => SF_resize hf h (Nat.le_refl _) q⟩
theorem perm_back {α : Type} {F B : List α} {r : α} {q : Nat} (hq : q < B.length) : (r :: (F ++ (B.take q ++ B.drop (q + 1)))).Perm (F ++ B.set q r) := by
  rw [List.set_eq_take_append_cons_drop, if_pos hq]
  have e : F ++ (B.take q ++ r :: B.drop (q + 1)) = (F ++ B.take q) ++ r :: B.drop (q + 1) := by simp
  rw [e]
  refine (List.perm_middle.trans (.of_eq ?_)).symm
  simp
theorem perm_outF {α : Type} {F B : List α} {f : α} {q : Nat} (hq : B[q]? = some f) : (F ++ B).Perm (f :: (F ++ (B.take q ++ B.drop (q + 1)))) := by
  obtain ⟨hl, rfl⟩ := List.getElem?_eq_some_iff.1 hq
  have e : F ++ B = (F ++ B.take q) ++ B[q] :: B.drop (q + 1) := by
    conv => lhs; rw [← List.take_append_drop q B, List.drop_eq_getElem_cons hl]
    simp [List.append_assoc]
  rw [e]
  refine List.perm_middle.trans (.of_eq ?_)
  simp [List.append_assoc]
end Go.Proofs.Ytlfklgganokgdaa

namespace Go.Proofs.Ytlfklgganokgdaa
open Go Go.RowKit
set_option linter.unusedVariables false
set_option linter.unnecessarySimpa false
set_option linter.unusedSimpArgs false

set_option maxHeartbeats 8000000 in
theorem to38 (bw : Nat) (f : Fn) (m : Nat) (aA : Option Addr) (n K : Nat) (fs : FS) (k : Nat) (As : Option Addr) (cs : Nat) (ws : List Wd64) (h : FOk n K fs) (hk : k < n) (hn : n ≤ 1048576) (hK : K ≤ 1048576) (hw : ws.length = K) (ht : fs.todo.length ≤ 4398046511104) :
    ACalls Try.prog 38 [.v (.pointer (some ⟨bw, 0, none⟩)), zn k, .v (.slice As K cs)] (.row As K cs 39 1 ((ws).map zw) :: FSt bw f m aA n fs) (fun t S => t = .tup [] ∧ ∃ fs', ToR n K fs k (absB ws) fs' ∧ S = .row As K cs 39 1 ((ws).map zw) :: FSt bw f m aA n fs') := by
  have hkl : k < fs.sls.length := by rw [h.len]; exact hk
  refine ACalls.intro Try.func38 rfl Try.ntmps38 (Nat.le_of_ble_eq_true rfl) rfl fun X w0 => ?_
  refine AW.rseq ?_
  refine Y1 (Yv.move rfl eV) ?_
  refine Y1 (Yv.nilChk rfl eV) ?_
  refine Y1 (Yv.fieldBox rfl fo_100_2 eV) ?_
  refine Y1 (Yv.loadBox rfl ag_98 (i := 1) rfl (E rfl rfl) rfl) ?_
  refine Y1 (Yv.move rfl eV) ?_
  refine Y1 (Yv.indexRow rfl ss_98 (i := 2) rfl (E rfl rfl) (E rfl rfl) (fun hg => ⟨rfl, by omega⟩)) ?_
  refine Y1 (Yv.loadEp rfl ag_101 (i := 2) rfl (E rfl rfl) (fun hg => sw_cell (by first | omega | assumption))) ?_
  refine Y1 (Yv.eqNilV rfl so_101 (E rfl rfl)) ?_
  refine nl ?_
  refine AW.cond rfl (fun h0t => ?_) (fun h0f => ?_)
  ·
    try replace h0t := of_decide_eq_true h0t
    have hv := sw_none (h.ok _ (getD_mem hkl)) h0t
    refine AW.rseqP rfl ?_
    refine AWP.take (i := 0) rfl (by kernel_rfl) (by kernel_rfl) (by kernel_rfl) rfl rfl (B rfl) (freeMove rfl (E rfl rfl)) ?_
    refine AWP.take (i := 1) rfl (by kernel_rfl) (by kernel_rfl) (by kernel_rfl) rfl rfl (B rfl) (freeNil rfl (E rfl rfl)) ?_
    refine AWP.take (i := 2) rfl (by kernel_rfl) (by kernel_rfl) (by kernel_rfl) rfl rfl (B rfl) (freeField rfl fo_100_2 (E rfl rfl)) ?_
    refine AWP.take (i := 4) rfl (by kernel_rfl) (by kernel_rfl) (by kernel_rfl) rfl rfl (B rfl) (freeMove rfl (E rfl rfl)) ?_
    refine AWP.take (i := 6) rfl (by kernel_rfl) (by kernel_rfl) (by kernel_rfl) rfl rfl (B rfl) (freeMove rfl (E rfl rfl)) ?_
    refine AWP.two (i := 3) (j := 5) (by kernel_rfl) rfl rfl ?_ ?_
    ·
      refine Y1 (Yv.loadBox rfl ag_98 (i := 1) rfl (E rfl rfl) rfl) ?_
      refine nl ?_
      refine AWP.one (i := 5) (by kernel_rfl) rfl ?_
      refine AWL.buildSliceRowS rfl rfl (B rfl) rfl el_101 (B rfl) rfl evs0 (Nat.le_of_ble_eq_true rfl) rfl rfl (fun A19 hA19 => ?_)
      refine nl ?_
      refine AWP.one (i := 7) (by kernel_rfl) rfl ?_
      refine AWL.perm (List.perm_append_singleton _ _).symm ?_
      refine AWL.appendRowS (i := 0) rfl rfl (B rfl) rfl el_101 (B rfl) rfl (E rfl rfl) (SrcT.row so_101 (i := 1) rfl (E rfl rfl)) (by unfold maxLen; omega) (by omega) hA19 (fun A21 c21 hA21 => ?_)
      rw [Nat.zero_add]
      refine AWL.putRow (F := ([.row As K cs 39 1 ((ws).map zw), .box bw 100 (flCells f m aA n fs), .row aA n n 101 1 (fs.sls.map swCell), .row fs.tA fs.todo.length fs.tc 3 1 (fs.todo.map zn)] : St)) (L := k) (by rw [List.length_map]; exact hkl) ?_
      refine nl ?_
      refine AWP.one (i := 8) (by kernel_rfl) rfl ?_
      refine Y1 (Yv.indexRow rfl ss_98 (i := 2) rfl (E rfl rfl) (E rfl rfl) (fun hg => ⟨rfl, by omega⟩)) ?_
      refine nl ?_
      refine AWP.one (i := 9) (by kernel_rfl) rfl ?_
      refine AWL.storeEp1 (i := 2) rfl rfl rfl ag_101 rfl (E rfl rfl) (E rfl rfl) rfl rfl (by rw [List.length_map, Nat.mul_one]; exact hkl) ?_
      refine nl ?_
      refine AWP.done (by kernel_rfl) ?_
      refine AW.region ?_
      refine Y1 (Yv.move rfl eV) ?_
      refine Y1 (Yv.move rfl eV) ?_
      refine Y1 (Yv.nilChk rfl eV) ?_
      refine Y1 (Yv.fieldBox rfl fo_100_3 eV) ?_
      refine Y1 (Yv.loadBox rfl ag_47 (i := 1) rfl (E rfl rfl) rfl) ?_
      refine Y1 (Yv.move rfl eV) ?_
      refine AWL.buildSlice1 rfl rfl (B rfl) rfl el_47 rfl (evsC (E rfl rfl) evs0) (Nat.le_of_ble_eq_true rfl) rfl rfl ?_
      refine AWL.appendRow (i := 3) rfl rfl (B rfl) rfl el_47 (B rfl) rfl (E rfl rfl) (SrcT.sl so_47 (B rfl) (E rfl rfl) (m := 1) rfl) (by unfold maxLen; omega) (by omega) (fun A30 c30 => ?_)
      refine Y1 (Yv.nilChk rfl eV) ?_
      refine Y1 (Yv.fieldBox rfl fo_100_3 eV) ?_
      refine AWL.storeBox (i := 1) rfl rfl rfl ag_47 rfl (E rfl rfl) (E rfl rfl) rfl rfl (Nat.le_of_ble_eq_true rfl) ?_
      refine nl ?_
      refine retN .nil ?_
      refine ⟨rfl, ⟨fs.sls.set k ⟨A21, c21, some ws⟩, fs.todo ++ [k], A30, c30⟩, to_nil h hkl hv hA21 hw, ?_⟩
      unfold FSt flCells
      dsimp only
      rw [sw_rows hw, sw_cell_set hw, List.map_append, List.length_append, Nat.mul_one]
      rfl
    ·
      refine AWL.buildSliceRowS rfl rfl (B rfl) rfl el_101 (B rfl) rfl evs0 (Nat.le_of_ble_eq_true rfl) rfl rfl (fun A19 hA19 => ?_)
      refine nl ?_
      refine AWP.two (i := 3) (j := 7) (by kernel_rfl) rfl rfl ?_ ?_
      ·
        refine Y1 (Yv.loadBox rfl ag_98 (i := 1) rfl (E rfl rfl) rfl) ?_
        refine nl ?_
        refine AWP.one (i := 7) (by kernel_rfl) rfl ?_
        refine AWL.perm (List.perm_append_singleton _ _).symm ?_
        refine AWL.appendRowS (i := 0) rfl rfl (B rfl) rfl el_101 (B rfl) rfl (E rfl rfl) (SrcT.row so_101 (i := 1) rfl (E rfl rfl)) (by unfold maxLen; omega) (by omega) hA19 (fun A21 c21 hA21 => ?_)
        rw [Nat.zero_add]
        refine AWL.putRow (F := ([.row As K cs 39 1 ((ws).map zw), .box bw 100 (flCells f m aA n fs), .row aA n n 101 1 (fs.sls.map swCell), .row fs.tA fs.todo.length fs.tc 3 1 (fs.todo.map zn)] : St)) (L := k) (by rw [List.length_map]; exact hkl) ?_
        refine nl ?_
        refine AWP.one (i := 8) (by kernel_rfl) rfl ?_
        refine Y1 (Yv.indexRow rfl ss_98 (i := 2) rfl (E rfl rfl) (E rfl rfl) (fun hg => ⟨rfl, by omega⟩)) ?_
        refine nl ?_
        refine AWP.one (i := 9) (by kernel_rfl) rfl ?_
        refine AWL.storeEp1 (i := 2) rfl rfl rfl ag_101 rfl (E rfl rfl) (E rfl rfl) rfl rfl (by rw [List.length_map, Nat.mul_one]; exact hkl) ?_
        refine nl ?_
        refine AWP.done (by kernel_rfl) ?_
        refine AW.region ?_
        refine Y1 (Yv.move rfl eV) ?_
        refine Y1 (Yv.move rfl eV) ?_
        refine Y1 (Yv.nilChk rfl eV) ?_
        refine Y1 (Yv.fieldBox rfl fo_100_3 eV) ?_
        refine Y1 (Yv.loadBox rfl ag_47 (i := 1) rfl (E rfl rfl) rfl) ?_
        refine Y1 (Yv.move rfl eV) ?_
        refine AWL.buildSlice1 rfl rfl (B rfl) rfl el_47 rfl (evsC (E rfl rfl) evs0) (Nat.le_of_ble_eq_true rfl) rfl rfl ?_
        refine AWL.appendRow (i := 3) rfl rfl (B rfl) rfl el_47 (B rfl) rfl (E rfl rfl) (SrcT.sl so_47 (B rfl) (E rfl rfl) (m := 1) rfl) (by unfold maxLen; omega) (by omega) (fun A30 c30 => ?_)
        refine Y1 (Yv.nilChk rfl eV) ?_
        refine Y1 (Yv.fieldBox rfl fo_100_3 eV) ?_
        refine AWL.storeBox (i := 1) rfl rfl rfl ag_47 rfl (E rfl rfl) (E rfl rfl) rfl rfl (Nat.le_of_ble_eq_true rfl) ?_
        refine nl ?_
        refine retN .nil ?_
        refine ⟨rfl, ⟨fs.sls.set k ⟨A21, c21, some ws⟩, fs.todo ++ [k], A30, c30⟩, to_nil h hkl hv hA21 hw, ?_⟩
        unfold FSt flCells
        dsimp only
        rw [sw_rows hw, sw_cell_set hw, List.map_append, List.length_append, Nat.mul_one]
        rfl
      ·
        refine AWL.perm (List.perm_append_singleton _ _).symm ?_
        refine AWL.appendRowS (i := 0) rfl rfl (B rfl) rfl el_101 (B rfl) rfl (E rfl rfl) (SrcT.row so_101 (i := 1) rfl (E rfl rfl)) (by unfold maxLen; omega) (by omega) hA19 (fun A21 c21 hA21 => ?_)
        rw [Nat.zero_add]
        refine AWL.putRow (F := ([.row As K cs 39 1 ((ws).map zw), .box bw 100 (flCells f m aA n fs), .row aA n n 101 1 (fs.sls.map swCell), .row fs.tA fs.todo.length fs.tc 3 1 (fs.todo.map zn)] : St)) (L := k) (by rw [List.length_map]; exact hkl) ?_
        refine nl ?_
        refine AWP.one (i := 3) (by kernel_rfl) rfl ?_
        refine Y1 (Yv.loadBox rfl ag_98 (i := 1) rfl (E rfl rfl) rfl) ?_
        refine nl ?_
        refine AWP.one (i := 8) (by kernel_rfl) rfl ?_
        refine Y1 (Yv.indexRow rfl ss_98 (i := 2) rfl (E rfl rfl) (E rfl rfl) (fun hg => ⟨rfl, by omega⟩)) ?_
        refine nl ?_
        refine AWP.one (i := 9) (by kernel_rfl) rfl ?_
        refine AWL.storeEp1 (i := 2) rfl rfl rfl ag_101 rfl (E rfl rfl) (E rfl rfl) rfl rfl (by rw [List.length_map, Nat.mul_one]; exact hkl) ?_
        refine nl ?_
        refine AWP.done (by kernel_rfl) ?_
        refine AW.region ?_
        refine Y1 (Yv.move rfl eV) ?_
        refine Y1 (Yv.move rfl eV) ?_
        refine Y1 (Yv.nilChk rfl eV) ?_
        refine Y1 (Yv.fieldBox rfl fo_100_3 eV) ?_
        refine Y1 (Yv.loadBox rfl ag_47 (i := 1) rfl (E rfl rfl) rfl) ?_
        refine Y1 (Yv.move rfl eV) ?_
        refine AWL.buildSlice1 rfl rfl (B rfl) rfl el_47 rfl (evsC (E rfl rfl) evs0) (Nat.le_of_ble_eq_true rfl) rfl rfl ?_
        refine AWL.appendRow (i := 3) rfl rfl (B rfl) rfl el_47 (B rfl) rfl (E rfl rfl) (SrcT.sl so_47 (B rfl) (E rfl rfl) (m := 1) rfl) (by unfold maxLen; omega) (by omega) (fun A30 c30 => ?_)
        refine Y1 (Yv.nilChk rfl eV) ?_
        refine Y1 (Yv.fieldBox rfl fo_100_3 eV) ?_
        refine AWL.storeBox (i := 1) rfl rfl rfl ag_47 rfl (E rfl rfl) (E rfl rfl) rfl rfl (Nat.le_of_ble_eq_true rfl) ?_
        refine nl ?_
        refine retN .nil ?_
        refine ⟨rfl, ⟨fs.sls.set k ⟨A21, c21, some ws⟩, fs.todo ++ [k], A30, c30⟩, to_nil h hkl hv hA21 hw, ?_⟩
        unfold FSt flCells
        dsimp only
        rw [sw_rows hw, sw_cell_set hw, List.map_append, List.length_append, Nat.mul_one]
        rfl
  ·
    try replace h0f := of_decide_eq_false h0f
    have hv := sw_some (h.ok _ (getD_mem hkl)) h0f
    have hwK : (fs.sls.getD k default).ws.length = K := h.lenK _ (getD_mem hkl) _ hv
    have hml : (meetW (fs.sls.getD k default).ws ws).length = (fs.sls.getD k default).ws.length := meetW_len (by omega)
    refine AW.perm (perm_outF (F := ([.row As K cs 39 1 ((ws).map zw), .box bw 100 (flCells f m aA n fs), .row aA n n 101 1 (fs.sls.map swCell), .row fs.tA fs.todo.length fs.tc 3 1 (fs.todo.map zn)] : St)) (sw_row hkl)).symm ?_
    refine AW.rseq ?_
    refine Y1 (Yv.move rfl eV) ?_
    refine Y1 (Yv.nilChk rfl eV) ?_
    refine Y1 (Yv.fieldBox rfl fo_100_2 eV) ?_
    refine Y1 (Yv.loadBox rfl ag_98 (i := 2) rfl (E rfl rfl) rfl) ?_
    refine Y1 (Yv.move rfl eV) ?_
    refine Y1 (Yv.indexRow rfl ss_98 (i := 3) rfl (E rfl rfl) (E rfl rfl) (fun hg => ⟨rfl, by omega⟩)) ?_
    refine Y1 (Yv.loadEp rfl ag_101 (i := 3) rfl (E rfl rfl) (fun hg => sw_cell (by first | omega | assumption))) ?_
    refine Y1 (Yv.move rfl eV) ?_
    refine C1 rfl ce_59 (E rfl rfl) (evsC (E rfl rfl) (evsC (E rfl rfl) evs0)) (S1 := [swRow (fs.sls.getD k default), .row As K cs 39 1 ((ws).map zw)]) (S2 := _) rfl (meet59 (fs.sls.getD k default).A As (fs.sls.getD k default).ws.length K (fs.sls.getD k default).c cs (fs.sls.getD k default).ws ws rfl hw hwK (by omega)) ?_
    rintro t41 S41 ⟨rfl, rfl⟩
    refine nl ?_
    refine AW.perm (perm_back (F := ([.row As K cs 39 1 ((ws).map zw), .box bw 100 (flCells f m aA n fs), .row aA n n 101 1 (fs.sls.map swCell), .row fs.tA fs.todo.length fs.tc 3 1 (fs.todo.map zn)] : St)) (by rw [List.length_map]; exact hkl)).symm ?_
    refine AW.cond rfl (fun h1t => ?_) (fun h1f => ?_)
    ·
      try replace h1t := of_decide_eq_true h1t
      refine AW.region ?_
      refine Y1 (Yv.move rfl eV) ?_
      refine Y1 (Yv.move rfl eV) ?_
      refine Y1 (Yv.nilChk rfl eV) ?_
      refine Y1 (Yv.fieldBox rfl fo_100_3 eV) ?_
      refine Y1 (Yv.loadBox rfl ag_47 (i := 1) rfl (E rfl rfl) rfl) ?_
      refine Y1 (Yv.move rfl eV) ?_
      refine AWL.buildSlice1 rfl rfl (B rfl) rfl el_47 rfl (evsC (E rfl rfl) evs0) (Nat.le_of_ble_eq_true rfl) rfl rfl ?_
      refine AWL.appendRow (i := 3) rfl rfl (B rfl) rfl el_47 (B rfl) rfl (E rfl rfl) (SrcT.sl so_47 (B rfl) (E rfl rfl) (m := 1) rfl) (by unfold maxLen; omega) (by omega) (fun A49 c49 => ?_)
      refine Y1 (Yv.nilChk rfl eV) ?_
      refine Y1 (Yv.fieldBox rfl fo_100_3 eV) ?_
      refine AWL.storeBox (i := 1) rfl rfl rfl ag_47 rfl (E rfl rfl) (E rfl rfl) rfl rfl (Nat.le_of_ble_eq_true rfl) ?_
      refine nl ?_
      refine retN .nil ?_
      refine ⟨rfl, ⟨fs.sls.set k ⟨(fs.sls.getD k default).A, (fs.sls.getD k default).c, some (meetW (fs.sls.getD k default).ws ws)⟩, fs.todo ++ [k], A49, c49⟩, to_some h hkl hv hw (by rw [if_pos h1t]), ?_⟩
      unfold FSt flCells
      dsimp only
      rw [sw_rows hml, sw_cells hkl hml, List.map_append, List.length_append]
      rfl
    ·
      try replace h1f := of_decide_eq_false h1f
      refine AW.skip ?_
      refine retN .nil ?_
      refine ⟨rfl, ⟨fs.sls.set k ⟨(fs.sls.getD k default).A, (fs.sls.getD k default).c, some (meetW (fs.sls.getD k default).ws ws)⟩, fs.todo, fs.tA, fs.tc⟩, to_some h hkl hv hw (by rw [if_neg (by rw [h1f]; decide)]), ?_⟩
      unfold FSt flCells
      dsimp only
      rw [sw_rows hml, sw_cells hkl hml]
      rfl

end Go.Proofs.Ytlfklgganokgdaa
