/-
  CONTRACTS of the heap package: graphs handed back in rows; spoiling; walked by program.
-/
import Derived.Test.YtbndnmmceccbkaaWk4
import Derived.Test.YtbndnmmceccbkaaFresh
import Derived.Test.YtbndnmmceccbkaaFacts2
namespace Go.Proofs.Ytbndnmmceccbkaa
open Go Go.RowKit
set_option linter.unusedVariables false

set_option maxHeartbeats 400000 in
theorem met42R (l : List RefV) (row : List Int) (b5 bm b6 : Nat) (A : Option Addr) (c : Nat) (hl : l.length ≤ 1099511627) (hr : row.length ≤ 1099511627) :
    ACalls Try.prog 42 [refsT l, .v (vp b5), .v (vp b6)] (CS b5 bm b6 A c row) (fun t_ S => ∃ Ao co A' c', t_ = .v (.slice Ao l.length co) ∧ S = CS b5 bm b6 A' c' (metF row l).1 ++ [.row Ao l.length co 54 2 ((metF row l).2.flatMap refCells)]) := by
  refine ACalls.intro Try.func42 rfl Try.ntmps42 (Nat.le_of_ble_eq_true rfl) rfl fun X w0 => ?_
  refine AW.rseq ?_
  refine AWL.y rfl rfl (B rfl) (Yv.assign rfl (E rfl rfl)) ?_
  refine AWL.nil ?_
  refine AW.rseq ?_
  refine AWL.y rfl rfl (B rfl) (Yv.assign rfl (E rfl rfl)) ?_
  refine AWL.nil ?_
  refine AW.rowNil 54 2 ?_
  refine AW.seq ?_
  refine AW.rseq ?_
  refine AWL.y rfl rfl (B rfl) (Yv.move rfl (E rfl rfl)) ?_
  refine AWL.y rfl rfl (B rfl) (Yv.lenSl rfl so_22 (B rfl) (E rfl rfl) len_refs) ?_
  refine AWL.y rfl rfl (B rfl) (Yv.move rfl (E rfl rfl)) ?_
  refine AWL.nil ?_
  refine AW.block ?_
  refine AW.loop5 (fun (j : Nat) (A1 : Option Addr) (c1 : Nat) (Ao : Option Addr) (co : Nat) => [(1, true, .v (vp b5)), (2, true, .v (vp b6)), (5, true, .v (.slice Ao j co)), (10, true, refsT l), (11, true, .v (.int .i64 (l.length : Int))), (12, true, .v (.int .i64 (j : Int)))]) (fun (j : Nat) (A1 : Option Addr) (c1 : Nat) (Ao : Option Addr) (co : Nat) => (CS b5 bm b6 A1 c1 (metF row (l.take j)).1 ++ [.row Ao j co 54 2 ((metF row (l.take j)).2.flatMap refCells)])) (fun (j : Nat) (A1 : Option Addr) (c1 : Nat) (Ao : Option Addr) (co : Nat) => j ≤ l.length) (fun (j : Nat) (A1 : Option Addr) (c1 : Nat) (Ao : Option Addr) (co : Nat) => l.length - j) 0 A c none 0 ?_ ?_ ?_ ?_
  · exact Nat.zero_le _
  · exact (Sub.cons rfl rfl (Sub.cons rfl rfl (Sub.cons rfl rfl (Sub.cons rfl rfl (Sub.cons rfl rfl (Sub.cons rfl rfl Sub.nil))))))
  · rfl
  ·
    intro j A1 c1 Ao co hinv
    have hm1 := metF_row (l.take j) row
    have hm2 : (l.take j).length ≤ j := List.length_take_le _ _
    refine AW.rseq ?_
    refine AWL.y rfl rfl (B rfl) (Yv.lss rfl (E rfl rfl) (E rfl rfl)) ?_
    refine AWL.nil ?_
    refine AW.seq ?_
    refine AW.cond rfl (fun h0t => ?_) (fun h0f => ?_)
    ·
      try replace h0t := of_decide_eq_true h0t
      refine AW.skip ?_
      refine AW.seq ?_
      refine AW.block ?_
      refine AW.rseq ?_
      refine AWL.y rfl rfl (B rfl) (Yv.indexSl rfl ss_22 (B rfl) (E rfl rfl) (E rfl rfl) (fun hg => ⟨rfl, (by first | omega | (simp only [len_refs, len_things, len_u8s]; omega))⟩)) ?_
      refine AWL.y rfl rfl (B rfl) (Yv.loadRpA rfl ag_54 (E rfl rfl) (fun hg => ref_get (by omega))) ?_
      refine AWL.allocOp rfl rfl (B rfl) rfl zc_54 (fun b7 => ?_)
      refine AWL.storeBox (i := 5) rfl rfl rfl ag_54 rfl (E rfl rfl) (E rfl rfl) rfl rfl (Nat.le_of_ble_eq_true rfl) ?_
      refine AWL.nil ?_
      refine AW.seq ?_
      refine AW.rseq ?_
      refine AWL.y rfl rfl (B rfl) (Yv.fieldBox rfl fo_54_0 (E rfl rfl)) ?_
      refine AWL.y rfl rfl (B rfl) (Yv.loadBox rfl ag_3 (i := 5) rfl (E rfl rfl) rfl) ?_
      refine AWL.y rfl rfl (B rfl) (Yv.eql rfl (E rfl rfl) (E rfl rfl)) ?_
      refine AWL.nil ?_
      refine AW.cond rfl (fun h1t => ?_) (fun h1f => ?_)
      ·
        try replace h1t := of_decide_eq_true h1t
        refine AW.rseq ?_
        refine AWL.y rfl rfl (B rfl) (Yv.loadBox rfl ag_64 (i := 1) rfl (E rfl rfl) rfl) ?_
        refine AWL.y rfl rfl (B rfl) (Yv.fieldBox rfl fo_54_1 (E rfl rfl)) ?_
        refine AWL.y rfl rfl (B rfl) (Yv.loadBox rfl ag_2 (i := 5) rfl (E rfl rfl) rfl) ?_
        refine AWL.y rfl rfl (B rfl) (Yv.lookup2 (k := .i _ _) (i := 0) rfl mp_64 rfl (E rfl rfl) (E rfl rfl) rfl (mapE_good _ _ _)) ?_
        rw [getK_mapE]
        refine AWL.y rfl rfl (B rfl) (Yv.move rfl (E rfl rfl)) ?_
        refine AWL.y rfl rfl (B rfl) (Yv.extract rfl (E rfl rfl) rfl) ?_
        refine AWL.y rfl rfl (B rfl) (Yv.extract rfl (E rfl rfl) rfl) ?_
        refine AWL.y rfl rfl (B rfl) (Yv.assign rfl (E rfl rfl)) ?_
        refine AWL.y rfl rfl (B rfl) (Yv.assign rfl (E rfl rfl)) ?_
        refine AWL.nil ?_
        refine AW.seq ?_
        refine AW.rseq ?_
        refine AWL.y rfl rfl (B rfl) (Yv.move rfl (E rfl rfl)) ?_
        refine AWL.y rfl rfl (B rfl) (Yv.not rfl (E rfl rfl)) ?_
        refine AWL.nil ?_
        rcases hix : ixOf (metF row (l.take j)).1 (l.getD j default).n with _ | ix
        ·
          refine AW.cond rfl (fun h2t => ?_) (fun h2f => ?_)
          ·
            refine AW.rseq ?_
            refine AWL.y rfl rfl (B rfl) (Yv.loadBox rfl ag_65 (i := 2) rfl (E rfl rfl) rfl) ?_
            refine AWL.y rfl rfl (B rfl) (Yv.lenV rfl so_65 (E rfl rfl)) ?_
            refine AWL.y rfl rfl (B rfl) (Yv.assign rfl (E rfl rfl)) ?_
            refine AWL.nil ?_
            refine AW.rseq ?_
            refine AWL.y rfl rfl (B rfl) (Yv.loadBox rfl ag_64 (i := 1) rfl (E rfl rfl) rfl) ?_
            refine AWL.y rfl rfl (B rfl) (Yv.fieldBox rfl fo_54_1 (E rfl rfl)) ?_
            refine AWL.y rfl rfl (B rfl) (Yv.loadBox rfl ag_2 (i := 5) rfl (E rfl rfl) rfl) ?_
            refine AWL.y rfl rfl (B rfl) (Yv.move rfl (E rfl rfl)) ?_
            refine AWL.mapUpd (k := .i _ _) (i := 0) rfl rfl (.inl rfl) mp_64 rfl (E rfl rfl) (E rfl rfl) (E rfl rfl) rfl rfl (mapE_good _ _ _) ?_
            refine AWL.nil ?_
            refine AW.region ?_
            refine AWL.y rfl rfl (B rfl) (Yv.loadBox rfl ag_65 (i := 2) rfl (E rfl rfl) rfl) ?_
            refine AWL.y rfl rfl (B rfl) (Yv.fieldBox rfl fo_54_1 (E rfl rfl)) ?_
            refine AWL.y rfl rfl (B rfl) (Yv.loadBox rfl ag_2 (i := 5) rfl (E rfl rfl) rfl) ?_
            refine AWL.buildSlice1 rfl rfl (B rfl) rfl el_65 rfl (evsC (E rfl rfl) evs0) (Nat.le_of_ble_eq_true rfl) rfl rfl ?_
            refine AWL.appendRow (i := 3) rfl rfl (B rfl) rfl el_65 (B rfl) rfl (E rfl rfl) (SrcT.sl so_65 (B rfl) (E rfl rfl) rfl) (by unfold maxLen; omega) (by omega) (fun A38 c38 => ?_)
            refine AWL.storeBox (i := 2) rfl rfl rfl ag_65 rfl (E rfl rfl) (E rfl rfl) rfl rfl (Nat.le_of_ble_eq_true rfl) ?_
            refine AWL.nil ?_
            refine AW.region ?_
            refine AWL.y rfl rfl (B rfl) (Yv.move rfl (E rfl rfl)) ?_
            refine AWL.y rfl rfl (B rfl) (Yv.fieldBox rfl fo_54_1 (E rfl rfl)) ?_
            refine AWL.storeBox (i := 5) rfl rfl rfl ag_2 rfl (E rfl rfl) (E rfl rfl) rfl rfl (Nat.le_of_ble_eq_true rfl) ?_
            refine AWL.nil ?_
            refine AW.region ?_
            refine AWL.y rfl rfl (B rfl) (Yv.move rfl (E rfl rfl)) ?_
            refine AWL.y rfl rfl (B rfl) (Yv.loadBoxA rfl ag_54 (i := 5) rfl (E rfl rfl) rfl rfl) ?_
            refine AWL.buildSliceE rfl rfl (B rfl) rfl el_22 (B rfl) rfl (evsC (E rfl rfl) evs0) (Nat.le_of_ble_eq_true rfl) rfl rfl ?_
            refine AWL.appendRow (i := 4) rfl rfl (B rfl) rfl el_22 (B rfl) rfl (E rfl rfl) (SrcT.sl so_22 (B rfl) (E rfl rfl) rfl) (by unfold maxLen; omega) (by omega) (fun A44 c44 => ?_)
            refine AWL.y rfl rfl (B rfl) (Yv.assign rfl (E rfl rfl)) ?_
            refine AWL.nil ?_
            refine AW.dropAt 5 ?_
            refine AW.region ?_
            refine AWL.y rfl rfl (B rfl) (Yv.addN_i64 rfl (E rfl rfl) (E rfl rfl) (fun hg => by omega)) ?_
            refine AWL.y rfl rfl (B rfl) (Yv.move rfl (E rfl rfl)) ?_
            refine AWL.nil ?_
            have e := met_take (l := l) (j := j) (by omega) row
            rw [metR_new h1t hix] at e
            refine ⟨j + 1, A38, c38, A44, c44, by omega, by omega, Sub.cons rfl rfl (Sub.cons rfl rfl (Sub.cons rfl rfl (Sub.cons rfl rfl (Sub.cons rfl rfl (Sub.cons rfl (by simp) Sub.nil))))), ?_⟩
            have e2 : refCells ⟨2, ((metF row (l.take j)).1.length : Int)⟩ = [.v (.int .i64 (l.getD j default).kind), .v (.int .i64 ((metF row (l.take j)).1.length : Int))] := by rw [h1t]; rfl
            have e3 := putK_mapE .i64 (l.getD j default).n (metF row (l.take j)).1 0 hix
            rw [Nat.zero_add] at e3
            simp only [e, out_flat, e2, CS, List.length_append, List.length_cons, List.length_nil, List.map_append]
            rw [← e3]
            rfl
          · exact absurd h2f (by simp)
        ·
          refine AW.cond rfl (fun h2t => ?_) (fun h2f => ?_)
          · exact absurd h2t (by simp)
          ·
            refine AW.skip ?_
            refine AW.region ?_
            refine AWL.y rfl rfl (B rfl) (Yv.move rfl (E rfl rfl)) ?_
            refine AWL.y rfl rfl (B rfl) (Yv.fieldBox rfl fo_54_1 (E rfl rfl)) ?_
            refine AWL.storeBox (i := 5) rfl rfl rfl ag_2 rfl (E rfl rfl) (E rfl rfl) rfl rfl (Nat.le_of_ble_eq_true rfl) ?_
            refine AWL.nil ?_
            refine AW.region ?_
            refine AWL.y rfl rfl (B rfl) (Yv.move rfl (E rfl rfl)) ?_
            refine AWL.y rfl rfl (B rfl) (Yv.loadBoxA rfl ag_54 (i := 5) rfl (E rfl rfl) rfl rfl) ?_
            refine AWL.buildSliceE rfl rfl (B rfl) rfl el_22 (B rfl) rfl (evsC (E rfl rfl) evs0) (Nat.le_of_ble_eq_true rfl) rfl rfl ?_
            refine AWL.appendRow (i := 4) rfl rfl (B rfl) rfl el_22 (B rfl) rfl (E rfl rfl) (SrcT.sl so_22 (B rfl) (E rfl rfl) rfl) (by unfold maxLen; omega) (by omega) (fun A44 c44 => ?_)
            refine AWL.y rfl rfl (B rfl) (Yv.assign rfl (E rfl rfl)) ?_
            refine AWL.nil ?_
            refine AW.dropAt 5 ?_
            refine AW.region ?_
            refine AWL.y rfl rfl (B rfl) (Yv.addN_i64 rfl (E rfl rfl) (E rfl rfl) (fun hg => by omega)) ?_
            refine AWL.y rfl rfl (B rfl) (Yv.move rfl (E rfl rfl)) ?_
            refine AWL.nil ?_
            have e := met_take (l := l) (j := j) (by omega) row
            rw [metR_in h1t hix] at e
            refine ⟨j + 1, A1, c1, A44, c44, by omega, by omega, Sub.cons rfl rfl (Sub.cons rfl rfl (Sub.cons rfl rfl (Sub.cons rfl rfl (Sub.cons rfl rfl (Sub.cons rfl (by simp) Sub.nil))))), ?_⟩
            have e2 : refCells ⟨2, (ix : Int)⟩ = [.v (.int .i64 (l.getD j default).kind), .v (.int .i64 ((0 + ix : Nat) : Int))] := by rw [h1t, Nat.zero_add]; rfl
            rw [e, out_flat, e2]
            rfl
      ·
        try replace h1f := of_decide_eq_false h1f
        refine AW.skip ?_
        refine AW.region ?_
        refine AWL.y rfl rfl (B rfl) (Yv.move rfl (E rfl rfl)) ?_
        refine AWL.y rfl rfl (B rfl) (Yv.loadBoxA rfl ag_54 (i := 5) rfl (E rfl rfl) rfl rfl) ?_
        refine AWL.buildSliceE rfl rfl (B rfl) rfl el_22 (B rfl) rfl (evsC (E rfl rfl) evs0) (Nat.le_of_ble_eq_true rfl) rfl rfl ?_
        refine AWL.appendRow (i := 4) rfl rfl (B rfl) rfl el_22 (B rfl) rfl (E rfl rfl) (SrcT.sl so_22 (B rfl) (E rfl rfl) rfl) (by unfold maxLen; omega) (by omega) (fun A44 c44 => ?_)
        refine AWL.y rfl rfl (B rfl) (Yv.assign rfl (E rfl rfl)) ?_
        refine AWL.nil ?_
        refine AW.dropAt 5 ?_
        refine AW.region ?_
        refine AWL.y rfl rfl (B rfl) (Yv.addN_i64 rfl (E rfl rfl) (E rfl rfl) (fun hg => by omega)) ?_
        refine AWL.y rfl rfl (B rfl) (Yv.move rfl (E rfl rfl)) ?_
        refine AWL.nil ?_
        have e := met_take (l := l) (j := j) (by omega) row
        rw [metR_small h1f] at e
        refine ⟨j + 1, A1, c1, A44, c44, by omega, by omega, Sub.cons rfl rfl (Sub.cons rfl rfl (Sub.cons rfl rfl (Sub.cons rfl rfl (Sub.cons rfl rfl (Sub.cons rfl (by simp) Sub.nil))))), ?_⟩
        rw [e, out_flat]
        rfl
    ·
      try replace h0f := of_decide_eq_false h0f
      refine AW.exit ?_
      refine AW.rseq ?_
      refine AWL.y rfl rfl (B rfl) (Yv.move rfl (E rfl rfl)) ?_
      refine AWL.y rfl rfl (B rfl) (Yv.assign rfl (E rfl rfl)) ?_
      refine AWL.nil ?_
      refine AW.ret (retI (.tmp rfl .nil) ?_)
      have hj : j = l.length := by omega
      subst hj
      rw [List.take_length]
      exact ⟨Ao, co, A1, c1, rfl, rfl⟩

set_option maxHeartbeats 1000000 in
theorem Canon18R (g : Graph) (hgr : GraphOk 1099511627 g) :
    ACalls Try.prog 18 [graphT g] [] (fun t_ S => ∃ (A : Option Addr) (c : Nat) (Ar : Option Addr) (nr cr : Nat) (fs : List Fr) (e0 e1 e2 e3 e5 e6 e7 : Ent), t_ = .tup [.agg [.v (.slice A fs.length c), .v (.slice Ar nr cr)], .v (.int .i64 (checkF g))] ∧ S = [e0, e1, e2, e3, .row Ar nr cr 54 2 ((canonG g).roots.flatMap refCells), e5, e6, e7, .row A fs.length c 24 4 (fs.flatMap frCells)] ++ fs.map frRow ∧ fs.map (·.t) = (canonG g).things) := by
  have hb1 := hgr.tl
  have hb2 := hgr.rl
  refine ACalls.intro Try.func18 rfl Try.ntmps18 (Nat.le_of_ble_eq_true rfl) rfl fun X w0 => ?_
  refine AW.rseq ?_
  refine AWL.boxOp rfl rfl (B rfl) rfl (E rfl rfl) rfl (fun b1 => ?_)
  refine AWL.allocOp rfl rfl (B rfl) rfl zc_27 (fun b2 => ?_)
  refine AWL.y rfl rfl (B rfl) (Yv.assign rfl (E rfl rfl)) ?_
  refine AWL.nil ?_
  refine AW.seq ?_
  refine AW.rseq ?_
  refine AWL.y rfl rfl (B rfl) (Yv.loadBoxA rfl ag_27 (i := 0) rfl (E rfl rfl) rfl rfl) ?_
  refine AWL.callP rfl rfl (B rfl) rfl ce_13 (E rfl rfl) (evsC (E rfl rfl) evs0) (Check13 g hgr) (fun t S h => h) ?_
  refine AWL.y rfl rfl (B rfl) (Yv.assign rfl (E rfl rfl)) ?_
  refine AWL.nil ?_
  refine AW.rseq ?_
  refine AWL.y rfl rfl (B rfl) (Yv.move rfl (E rfl rfl)) ?_
  refine AWL.y rfl rfl (B rfl) (Yv.neq rfl (E rfl rfl) (E rfl rfl)) ?_
  refine AWL.nil ?_
  refine AW.cond rfl (fun h0t => ?_) (fun h0f => ?_)
  ·
    try replace h0t := of_decide_eq_true h0t
    simp only [Bool.or_eq_true, Bool.and_eq_true, Bool.or_eq_false_iff, Bool.and_eq_false_iff, Bool.not_eq_true', Bool.not_eq_false', decide_eq_true_eq, decide_eq_false_iff_not, Decidable.not_not] at h0t
    refine AW.rseq ?_
    refine AWL.y rfl rfl (B rfl) (Yv.buildS rfl sh_27 evp0 (fun _ => rfl)) ?_
    refine AWL.y rfl rfl (B rfl) (Yv.move rfl (E rfl rfl)) ?_
    refine AWL.storeBox (i := 1) rfl rfl rfl ag_27 rfl (E rfl rfl) (E rfl rfl) rfl rfl (Nat.le_of_ble_eq_true rfl) ?_
    refine AWL.y rfl rfl (B rfl) (Yv.assign rfl (E rfl rfl)) ?_
    refine AWL.nil ?_
    refine AW.rowNil 1 1 ?_
    refine AW.rowNil 1 1 ?_
    refine AW.rowNil 54 2 ?_
    refine AW.rowNil 1 1 ?_
    refine AW.rowNil 1 1 ?_
    refine AW.rowNil 1 1 ?_
    refine AW.rowNil 24 4 ?_
    refine AW.ret (retI (.cellA (i := 1) rfl ag_27 rfl rfl rfl (.tmp rfl .nil)) ?_)
    rw [show canonG g = ⟨[], []⟩ by rw [canonG, check_nz h0t]; rfl]
    exact ⟨none, 0, none, 0, 0, [], _, _, _, _, _, _, _, rfl, rfl, rfl⟩
  ·
    try replace h0f := of_decide_eq_false h0f
    simp only [Bool.or_eq_true, Bool.and_eq_true, Bool.or_eq_false_iff, Bool.and_eq_false_iff, Bool.not_eq_true', Bool.not_eq_false', decide_eq_true_eq, decide_eq_false_iff_not, Decidable.not_not] at h0f
    have hck := check_zero.1 h0f
    have hk1 := metF_ok (RowOk.nil g.things.length) (check_roots hck)
    refine AW.skip ?_
    refine AW.rseq ?_
    refine AWL.makeMapOp rfl rfl (B rfl) rfl (fun b17 => ?_)
    refine AWL.allocOp rfl rfl (B rfl) rfl zc_64 (fun b5 => ?_)
    refine AWL.storeBox (i := 3) rfl rfl rfl ag_64 rfl (E rfl rfl) (E rfl rfl) rfl rfl (Nat.le_of_ble_eq_true rfl) ?_
    refine AWL.nil ?_
    refine AW.rseq ?_
    refine AWL.allocOp rfl rfl (B rfl) rfl zc_65 (fun b6 => ?_)
    refine AWL.nil ?_
    refine AW.rowNil 2 1 ?_
    refine AW.perm (List.perm_append_comm (l₁ := CS b5 b17 b6 none 0 []) (l₂ := [.box b1 27 (gCells g), .box b2 27 [.v (.slice none 0 0), .v (.slice none 0 0)]])) ?_
    refine AW.rseq ?_
    refine AWL.y rfl rfl (B rfl) (Yv.makeFunc rfl evs0 rfl (evsC (E rfl rfl) (evsC (E rfl rfl) evs0)) rfl) ?_
    refine AWL.y rfl rfl (B rfl) (Yv.assign rfl (E rfl rfl)) ?_
    refine AWL.nil ?_
    refine AW.rseq ?_
    refine AWL.y rfl rfl (B rfl) (Yv.move rfl (E rfl rfl)) ?_
    refine AWL.y rfl rfl (B rfl) (Yv.fieldBox rfl fo_27_1 (E rfl rfl)) ?_
    refine AWL.y rfl rfl (B rfl) (Yv.loadBox rfl ag_22 (i := 4) rfl (E rfl rfl) rfl) ?_
    refine AWL.call rfl rfl (B rfl) rfl ce_42 (E rfl rfl) (evsC (E rfl rfl) evs0) (S1 := (CS b5 b17 b6 none 0 [])) (S2 := _) rfl (met42R g.roots [] b5 b17 b6 none 0 (by omega) (by simp)) ?_
    rintro t22 S22 ⟨Ar, cr, A', c', rfl, rfl⟩
    refine AWL.y rfl rfl (B rfl) (Yv.buildS rfl sh_27 (evpC (E rfl rfl) evp0) (fun _ => rfl)) ?_
    refine AWL.allocOp rfl rfl (B rfl) rfl zc_27 (fun b8 => ?_)
    refine AWL.storeBox (i := 7) rfl rfl rfl ag_27 rfl (E rfl rfl) (E rfl rfl) rfl rfl (Nat.le_of_ble_eq_true rfl) ?_
    refine AWL.nil ?_
    refine AW.rowNil 24 4 ?_
    refine AW.seq ?_
    refine AW.rseq ?_
    refine AWL.y rfl rfl (B rfl) (Yv.assign rfl (E rfl rfl)) ?_
    refine AWL.nil ?_
    refine AW.block ?_
    refine AW.loop5 (fun (m : List Int × List Fr) (A1 : Option Addr) (c1 : Nat) (Ao : Option Addr) (co : Nat) => [(1, true, .v (vp b1)), (2, true, .v (vp b2)), (6, true, .v (vp b6)), (7, true, .v (.func (.func 42) #[] #[vp b5, vp b6])), (8, true, .v (vp b8)), (9, true, .v (.int .i64 (m.2.length : Int)))]) (fun (m : List Int × List Fr) (A1 : Option Addr) (c1 : Nat) (Ao : Option Addr) (co : Nat) => (CS b5 b17 b6 A1 c1 m.1 ++ ([.row Ar g.roots.length cr 54 2 ((metF [] g.roots).2.flatMap refCells), .box b1 27 (gCells g), .box b2 27 [.v (.slice none 0 0), .v (.slice none 0 0)], .box b8 27 [.v (.slice Ao m.2.length co), .v (.slice Ar g.roots.length cr)], .row Ao m.2.length co 24 4 (m.2.flatMap frCells)] ++ m.2.map frRow))) (fun (m : List Int × List Fr) (A1 : Option Addr) (c1 : Nat) (Ao : Option Addr) (co : Nat) => canonS g g.things.length (metF [] g.roots).1 [] = canonS g (g.things.length - m.2.length) m.1 (m.2.map (·.t)) ∧ RowOk g.things.length m.1 ∧ m.2.length ≤ m.1.length) (fun (m : List Int × List Fr) (A1 : Option Addr) (c1 : Nat) (Ao : Option Addr) (co : Nat) => g.things.length - m.2.length) (((metF [] g.roots).1, [])) (A') (c') none 0 ?_ ?_ ?_ ?_
    · exact ⟨rfl, hk1, Nat.zero_le _⟩
    · exact (Sub.cons rfl rfl (Sub.cons rfl rfl (Sub.cons rfl rfl (Sub.cons rfl rfl (Sub.cons rfl rfl (Sub.cons rfl rfl Sub.nil))))))
    · rfl
    ·
      intro m A1 c1 Ao co hinv
      obtain ⟨hcn, hok, hle⟩ := hinv
      have hml := hok.len
      have hmm : (m.2.map (·.t)).length = m.2.length := List.length_map ..
      refine AW.seq ?_
      refine AW.rseq ?_
      refine AWL.y rfl rfl (B rfl) (Yv.move rfl (E rfl rfl)) ?_
      refine AWL.y rfl rfl (B rfl) (Yv.loadBox rfl ag_65 (i := 2) rfl (E rfl rfl) rfl) ?_
      refine AWL.y rfl rfl (B rfl) (Yv.lenV rfl so_65 (E rfl rfl)) ?_
      refine AWL.y rfl rfl (B rfl) (Yv.lss rfl (E rfl rfl) (E rfl rfl)) ?_
      refine AWL.nil ?_
      refine AW.cond rfl (fun h1t => ?_) (fun h1f => ?_)
      ·
        try replace h1t := of_decide_eq_true h1t
        have hz := row_at hok (i := m.2.length) (by omega)
        have hzt : ThingOk 1099511627 (g.things.getD (m.1.getD m.2.length 0).toNat default) := hgr.ts _ (getD_mem' (by omega))
        refine AW.skip ?_
        refine AW.seq ?_
        refine AW.block ?_
        refine AW.mid (α := Nat) (fun b10 => [(1, true, .v (vp b1)), (2, true, .v (vp b2)), (6, true, .v (vp b6)), (7, true, .v (.func (.func 42) #[] #[vp b5, vp b6])), (8, true, .v (vp b8)), (9, true, .v (.int .i64 (m.2.length : Int))), (10, true, .v (vp b10))]) (fun b10 => CS b5 b17 b6 A1 c1 m.1 ++ (.box b10 24 (thingCells (g.things.getD (m.1.getD m.2.length 0).toNat default)) :: ([.row Ar g.roots.length cr 54 2 ((metF [] g.roots).2.flatMap refCells), .box b1 27 (gCells g), .box b2 27 [.v (.slice none 0 0), .v (.slice none 0 0)], .box b8 27 [.v (.slice Ao m.2.length co), .v (.slice Ar g.roots.length cr)], .row Ao m.2.length co 24 4 (m.2.flatMap frCells)] ++ m.2.map frRow))) (fun _ => True) ?_ ?_
        ·
          refine AW.regionP rfl ?_
          refine AWP.take (i := 0) rfl (by kernel_rfl) (by kernel_rfl) (by kernel_rfl) rfl rfl (B rfl) (freeField rfl fo_27_0 (E rfl rfl)) ?_
          refine AWP.take (i := 3) rfl (by kernel_rfl) (by kernel_rfl) (by kernel_rfl) rfl rfl (B rfl) (freeMove rfl (E rfl rfl)) ?_
          refine AWP.three (i := 1) (j := 2) (k := 8) (by kernel_rfl) rfl rfl rfl ?_ ?_ ?_
          ·
            refine AWL.y rfl rfl (B rfl) (Yv.loadBox rfl ag_25 (i := 5) rfl (E rfl rfl) rfl) ?_
            refine AWL.nil ?_
            refine AWP.two (i := 2) (j := 8) (by kernel_rfl) rfl rfl ?_ ?_
            ·
              refine AWL.y rfl rfl (B rfl) (Yv.loadBox rfl ag_65 (i := 2) rfl (E rfl rfl) rfl) ?_
              refine AWL.nil ?_
              refine AWP.two (i := 4) (j := 8) (by kernel_rfl) rfl rfl ?_ ?_
              ·
                refine AWL.y rfl rfl (B rfl) (Yv.indexRow (j := m.2.length) rfl ss_65 (i := 3) rfl (E rfl rfl) (E rfl rfl) (fun hg => ⟨rfl, by omega⟩)) ?_
                refine AWL.nil ?_
                refine AWP.two (i := 5) (j := 8) (by kernel_rfl) rfl rfl ?_ ?_
                ·
                  refine AWL.y rfl rfl (B rfl) (Yv.loadEp rfl ag_2 (i := 3) rfl (E rfl rfl) (fun hg => z64_get (by omega))) ?_
                  refine AWL.nil ?_
                  refine AWP.two (i := 6) (j := 8) (by kernel_rfl) rfl rfl ?_ ?_
                  ·
                    refine AWL.y rfl rfl (B rfl) (Yv.indexSl (j := (m.1.getD m.2.length 0).toNat) rfl ss_25 (B rfl) (E rfl rfl) (E rfl rfl) (fun hg => ⟨(Int.toNat_of_nonneg (by omega)).symm, by simp only [len_things]; omega⟩)) ?_
                    refine AWL.nil ?_
                    refine AWP.two (i := 7) (j := 8) (by kernel_rfl) rfl rfl ?_ ?_
                    ·
                      refine AWL.y rfl rfl (B rfl) (Yv.loadRpA rfl ag_24 (E rfl rfl) (fun hg => thing_get (by omega))) ?_
                      refine AWL.nil ?_
                      refine AWP.one (i := 8) (by kernel_rfl) rfl ?_
                      refine AWL.allocOp rfl rfl (B rfl) rfl zc_24 (fun b10 => ?_)
                      refine AWL.perm (perm_ins (CS b5 b17 b6 A1 c1 m.1) ([.row Ar g.roots.length cr 54 2 ((metF [] g.roots).2.flatMap refCells), .box b1 27 (gCells g), .box b2 27 [.v (.slice none 0 0), .v (.slice none 0 0)], .box b8 27 [.v (.slice Ao m.2.length co), .v (.slice Ar g.roots.length cr)], .row Ao m.2.length co 24 4 (m.2.flatMap frCells)] ++ m.2.map frRow) _) ?_
                      refine AWL.nil ?_
                      refine AWP.one (i := 9) (by kernel_rfl) rfl ?_
                      refine AWL.storeBox (i := 4) rfl rfl rfl ag_24 rfl (E rfl rfl) (E rfl rfl) rfl rfl (Nat.le_of_ble_eq_true rfl) ?_
                      refine AWL.nil ?_
                      refine AWP.done (by kernel_rfl) ?_
                      exact ⟨b10, trivial, Sub.cons rfl rfl (Sub.cons rfl rfl (Sub.cons rfl rfl (Sub.cons rfl rfl (Sub.cons rfl rfl (Sub.cons rfl rfl (Sub.cons rfl rfl Sub.nil)))))), rfl⟩
                    ·
                      refine AWL.allocOp rfl rfl (B rfl) rfl zc_24 (fun b10 => ?_)
                      refine AWL.perm (perm_ins (CS b5 b17 b6 A1 c1 m.1) ([.row Ar g.roots.length cr 54 2 ((metF [] g.roots).2.flatMap refCells), .box b1 27 (gCells g), .box b2 27 [.v (.slice none 0 0), .v (.slice none 0 0)], .box b8 27 [.v (.slice Ao m.2.length co), .v (.slice Ar g.roots.length cr)], .row Ao m.2.length co 24 4 (m.2.flatMap frCells)] ++ m.2.map frRow) _) ?_
                      refine AWL.nil ?_
                      refine AWP.one (i := 7) (by kernel_rfl) rfl ?_
                      refine AWL.y rfl rfl (B rfl) (Yv.loadRpA rfl ag_24 (E rfl rfl) (fun hg => thing_get (by omega))) ?_
                      refine AWL.nil ?_
                      refine AWP.one (i := 9) (by kernel_rfl) rfl ?_
                      refine AWL.storeBox (i := 4) rfl rfl rfl ag_24 rfl (E rfl rfl) (E rfl rfl) rfl rfl (Nat.le_of_ble_eq_true rfl) ?_
                      refine AWL.nil ?_
                      refine AWP.done (by kernel_rfl) ?_
                      exact ⟨b10, trivial, Sub.cons rfl rfl (Sub.cons rfl rfl (Sub.cons rfl rfl (Sub.cons rfl rfl (Sub.cons rfl rfl (Sub.cons rfl rfl (Sub.cons rfl rfl Sub.nil)))))), rfl⟩
                  ·
                    refine AWL.allocOp rfl rfl (B rfl) rfl zc_24 (fun b10 => ?_)
                    refine AWL.perm (perm_ins (CS b5 b17 b6 A1 c1 m.1) ([.row Ar g.roots.length cr 54 2 ((metF [] g.roots).2.flatMap refCells), .box b1 27 (gCells g), .box b2 27 [.v (.slice none 0 0), .v (.slice none 0 0)], .box b8 27 [.v (.slice Ao m.2.length co), .v (.slice Ar g.roots.length cr)], .row Ao m.2.length co 24 4 (m.2.flatMap frCells)] ++ m.2.map frRow) _) ?_
                    refine AWL.nil ?_
                    refine AWP.one (i := 6) (by kernel_rfl) rfl ?_
                    refine AWL.y rfl rfl (B rfl) (Yv.indexSl (j := (m.1.getD m.2.length 0).toNat) rfl ss_25 (B rfl) (E rfl rfl) (E rfl rfl) (fun hg => ⟨(Int.toNat_of_nonneg (by omega)).symm, by simp only [len_things]; omega⟩)) ?_
                    refine AWL.nil ?_
                    refine AWP.one (i := 7) (by kernel_rfl) rfl ?_
                    refine AWL.y rfl rfl (B rfl) (Yv.loadRpA rfl ag_24 (E rfl rfl) (fun hg => thing_get (by omega))) ?_
                    refine AWL.nil ?_
                    refine AWP.one (i := 9) (by kernel_rfl) rfl ?_
                    refine AWL.storeBox (i := 4) rfl rfl rfl ag_24 rfl (E rfl rfl) (E rfl rfl) rfl rfl (Nat.le_of_ble_eq_true rfl) ?_
                    refine AWL.nil ?_
                    refine AWP.done (by kernel_rfl) ?_
                    exact ⟨b10, trivial, Sub.cons rfl rfl (Sub.cons rfl rfl (Sub.cons rfl rfl (Sub.cons rfl rfl (Sub.cons rfl rfl (Sub.cons rfl rfl (Sub.cons rfl rfl Sub.nil)))))), rfl⟩
                ·
                  refine AWL.allocOp rfl rfl (B rfl) rfl zc_24 (fun b10 => ?_)
                  refine AWL.perm (perm_ins (CS b5 b17 b6 A1 c1 m.1) ([.row Ar g.roots.length cr 54 2 ((metF [] g.roots).2.flatMap refCells), .box b1 27 (gCells g), .box b2 27 [.v (.slice none 0 0), .v (.slice none 0 0)], .box b8 27 [.v (.slice Ao m.2.length co), .v (.slice Ar g.roots.length cr)], .row Ao m.2.length co 24 4 (m.2.flatMap frCells)] ++ m.2.map frRow) _) ?_
                  refine AWL.nil ?_
                  refine AWP.one (i := 5) (by kernel_rfl) rfl ?_
                  refine AWL.y rfl rfl (B rfl) (Yv.loadEp rfl ag_2 (i := 3) rfl (E rfl rfl) (fun hg => z64_get (by omega))) ?_
                  refine AWL.nil ?_
                  refine AWP.one (i := 6) (by kernel_rfl) rfl ?_
                  refine AWL.y rfl rfl (B rfl) (Yv.indexSl (j := (m.1.getD m.2.length 0).toNat) rfl ss_25 (B rfl) (E rfl rfl) (E rfl rfl) (fun hg => ⟨(Int.toNat_of_nonneg (by omega)).symm, by simp only [len_things]; omega⟩)) ?_
                  refine AWL.nil ?_
                  refine AWP.one (i := 7) (by kernel_rfl) rfl ?_
                  refine AWL.y rfl rfl (B rfl) (Yv.loadRpA rfl ag_24 (E rfl rfl) (fun hg => thing_get (by omega))) ?_
                  refine AWL.nil ?_
                  refine AWP.one (i := 9) (by kernel_rfl) rfl ?_
                  refine AWL.storeBox (i := 4) rfl rfl rfl ag_24 rfl (E rfl rfl) (E rfl rfl) rfl rfl (Nat.le_of_ble_eq_true rfl) ?_
                  refine AWL.nil ?_
                  refine AWP.done (by kernel_rfl) ?_
                  exact ⟨b10, trivial, Sub.cons rfl rfl (Sub.cons rfl rfl (Sub.cons rfl rfl (Sub.cons rfl rfl (Sub.cons rfl rfl (Sub.cons rfl rfl (Sub.cons rfl rfl Sub.nil)))))), rfl⟩
              ·
                refine AWL.allocOp rfl rfl (B rfl) rfl zc_24 (fun b10 => ?_)
                refine AWL.perm (perm_ins (CS b5 b17 b6 A1 c1 m.1) ([.row Ar g.roots.length cr 54 2 ((metF [] g.roots).2.flatMap refCells), .box b1 27 (gCells g), .box b2 27 [.v (.slice none 0 0), .v (.slice none 0 0)], .box b8 27 [.v (.slice Ao m.2.length co), .v (.slice Ar g.roots.length cr)], .row Ao m.2.length co 24 4 (m.2.flatMap frCells)] ++ m.2.map frRow) _) ?_
                refine AWL.nil ?_
                refine AWP.one (i := 4) (by kernel_rfl) rfl ?_
                refine AWL.y rfl rfl (B rfl) (Yv.indexRow (j := m.2.length) rfl ss_65 (i := 3) rfl (E rfl rfl) (E rfl rfl) (fun hg => ⟨rfl, by omega⟩)) ?_
                refine AWL.nil ?_
                refine AWP.one (i := 5) (by kernel_rfl) rfl ?_
                refine AWL.y rfl rfl (B rfl) (Yv.loadEp rfl ag_2 (i := 3) rfl (E rfl rfl) (fun hg => z64_get (by omega))) ?_
                refine AWL.nil ?_
                refine AWP.one (i := 6) (by kernel_rfl) rfl ?_
                refine AWL.y rfl rfl (B rfl) (Yv.indexSl (j := (m.1.getD m.2.length 0).toNat) rfl ss_25 (B rfl) (E rfl rfl) (E rfl rfl) (fun hg => ⟨(Int.toNat_of_nonneg (by omega)).symm, by simp only [len_things]; omega⟩)) ?_
                refine AWL.nil ?_
                refine AWP.one (i := 7) (by kernel_rfl) rfl ?_
                refine AWL.y rfl rfl (B rfl) (Yv.loadRpA rfl ag_24 (E rfl rfl) (fun hg => thing_get (by omega))) ?_
                refine AWL.nil ?_
                refine AWP.one (i := 9) (by kernel_rfl) rfl ?_
                refine AWL.storeBox (i := 4) rfl rfl rfl ag_24 rfl (E rfl rfl) (E rfl rfl) rfl rfl (Nat.le_of_ble_eq_true rfl) ?_
                refine AWL.nil ?_
                refine AWP.done (by kernel_rfl) ?_
                exact ⟨b10, trivial, Sub.cons rfl rfl (Sub.cons rfl rfl (Sub.cons rfl rfl (Sub.cons rfl rfl (Sub.cons rfl rfl (Sub.cons rfl rfl (Sub.cons rfl rfl Sub.nil)))))), rfl⟩
            ·
              refine AWL.allocOp rfl rfl (B rfl) rfl zc_24 (fun b10 => ?_)
              refine AWL.perm (perm_ins (CS b5 b17 b6 A1 c1 m.1) ([.row Ar g.roots.length cr 54 2 ((metF [] g.roots).2.flatMap refCells), .box b1 27 (gCells g), .box b2 27 [.v (.slice none 0 0), .v (.slice none 0 0)], .box b8 27 [.v (.slice Ao m.2.length co), .v (.slice Ar g.roots.length cr)], .row Ao m.2.length co 24 4 (m.2.flatMap frCells)] ++ m.2.map frRow) _) ?_
              refine AWL.nil ?_
              refine AWP.one (i := 2) (by kernel_rfl) rfl ?_
              refine AWL.y rfl rfl (B rfl) (Yv.loadBox rfl ag_65 (i := 2) rfl (E rfl rfl) rfl) ?_
              refine AWL.nil ?_
              refine AWP.one (i := 4) (by kernel_rfl) rfl ?_
              refine AWL.y rfl rfl (B rfl) (Yv.indexRow (j := m.2.length) rfl ss_65 (i := 3) rfl (E rfl rfl) (E rfl rfl) (fun hg => ⟨rfl, by omega⟩)) ?_
              refine AWL.nil ?_
              refine AWP.one (i := 5) (by kernel_rfl) rfl ?_
              refine AWL.y rfl rfl (B rfl) (Yv.loadEp rfl ag_2 (i := 3) rfl (E rfl rfl) (fun hg => z64_get (by omega))) ?_
              refine AWL.nil ?_
              refine AWP.one (i := 6) (by kernel_rfl) rfl ?_
              refine AWL.y rfl rfl (B rfl) (Yv.indexSl (j := (m.1.getD m.2.length 0).toNat) rfl ss_25 (B rfl) (E rfl rfl) (E rfl rfl) (fun hg => ⟨(Int.toNat_of_nonneg (by omega)).symm, by simp only [len_things]; omega⟩)) ?_
              refine AWL.nil ?_
              refine AWP.one (i := 7) (by kernel_rfl) rfl ?_
              refine AWL.y rfl rfl (B rfl) (Yv.loadRpA rfl ag_24 (E rfl rfl) (fun hg => thing_get (by omega))) ?_
              refine AWL.nil ?_
              refine AWP.one (i := 9) (by kernel_rfl) rfl ?_
              refine AWL.storeBox (i := 4) rfl rfl rfl ag_24 rfl (E rfl rfl) (E rfl rfl) rfl rfl (Nat.le_of_ble_eq_true rfl) ?_
              refine AWL.nil ?_
              refine AWP.done (by kernel_rfl) ?_
              exact ⟨b10, trivial, Sub.cons rfl rfl (Sub.cons rfl rfl (Sub.cons rfl rfl (Sub.cons rfl rfl (Sub.cons rfl rfl (Sub.cons rfl rfl (Sub.cons rfl rfl Sub.nil)))))), rfl⟩
          ·
            refine AWL.y rfl rfl (B rfl) (Yv.loadBox rfl ag_65 (i := 2) rfl (E rfl rfl) rfl) ?_
            refine AWL.nil ?_
            refine AWP.three (i := 1) (j := 4) (k := 8) (by kernel_rfl) rfl rfl rfl ?_ ?_ ?_
            ·
              refine AWL.y rfl rfl (B rfl) (Yv.loadBox rfl ag_25 (i := 5) rfl (E rfl rfl) rfl) ?_
              refine AWL.nil ?_
              refine AWP.two (i := 4) (j := 8) (by kernel_rfl) rfl rfl ?_ ?_
              ·
                refine AWL.y rfl rfl (B rfl) (Yv.indexRow (j := m.2.length) rfl ss_65 (i := 3) rfl (E rfl rfl) (E rfl rfl) (fun hg => ⟨rfl, by omega⟩)) ?_
                refine AWL.nil ?_
                refine AWP.two (i := 5) (j := 8) (by kernel_rfl) rfl rfl ?_ ?_
                ·
                  refine AWL.y rfl rfl (B rfl) (Yv.loadEp rfl ag_2 (i := 3) rfl (E rfl rfl) (fun hg => z64_get (by omega))) ?_
                  refine AWL.nil ?_
                  refine AWP.two (i := 6) (j := 8) (by kernel_rfl) rfl rfl ?_ ?_
                  ·
                    refine AWL.y rfl rfl (B rfl) (Yv.indexSl (j := (m.1.getD m.2.length 0).toNat) rfl ss_25 (B rfl) (E rfl rfl) (E rfl rfl) (fun hg => ⟨(Int.toNat_of_nonneg (by omega)).symm, by simp only [len_things]; omega⟩)) ?_
                    refine AWL.nil ?_
                    refine AWP.two (i := 7) (j := 8) (by kernel_rfl) rfl rfl ?_ ?_
                    ·
                      refine AWL.y rfl rfl (B rfl) (Yv.loadRpA rfl ag_24 (E rfl rfl) (fun hg => thing_get (by omega))) ?_
                      refine AWL.nil ?_
                      refine AWP.one (i := 8) (by kernel_rfl) rfl ?_
                      refine AWL.allocOp rfl rfl (B rfl) rfl zc_24 (fun b10 => ?_)
                      refine AWL.perm (perm_ins (CS b5 b17 b6 A1 c1 m.1) ([.row Ar g.roots.length cr 54 2 ((metF [] g.roots).2.flatMap refCells), .box b1 27 (gCells g), .box b2 27 [.v (.slice none 0 0), .v (.slice none 0 0)], .box b8 27 [.v (.slice Ao m.2.length co), .v (.slice Ar g.roots.length cr)], .row Ao m.2.length co 24 4 (m.2.flatMap frCells)] ++ m.2.map frRow) _) ?_
                      refine AWL.nil ?_
                      refine AWP.one (i := 9) (by kernel_rfl) rfl ?_
                      refine AWL.storeBox (i := 4) rfl rfl rfl ag_24 rfl (E rfl rfl) (E rfl rfl) rfl rfl (Nat.le_of_ble_eq_true rfl) ?_
                      refine AWL.nil ?_
                      refine AWP.done (by kernel_rfl) ?_
                      exact ⟨b10, trivial, Sub.cons rfl rfl (Sub.cons rfl rfl (Sub.cons rfl rfl (Sub.cons rfl rfl (Sub.cons rfl rfl (Sub.cons rfl rfl (Sub.cons rfl rfl Sub.nil)))))), rfl⟩
                    ·
                      refine AWL.allocOp rfl rfl (B rfl) rfl zc_24 (fun b10 => ?_)
                      refine AWL.perm (perm_ins (CS b5 b17 b6 A1 c1 m.1) ([.row Ar g.roots.length cr 54 2 ((metF [] g.roots).2.flatMap refCells), .box b1 27 (gCells g), .box b2 27 [.v (.slice none 0 0), .v (.slice none 0 0)], .box b8 27 [.v (.slice Ao m.2.length co), .v (.slice Ar g.roots.length cr)], .row Ao m.2.length co 24 4 (m.2.flatMap frCells)] ++ m.2.map frRow) _) ?_
                      refine AWL.nil ?_
                      refine AWP.one (i := 7) (by kernel_rfl) rfl ?_
                      refine AWL.y rfl rfl (B rfl) (Yv.loadRpA rfl ag_24 (E rfl rfl) (fun hg => thing_get (by omega))) ?_
                      refine AWL.nil ?_
                      refine AWP.one (i := 9) (by kernel_rfl) rfl ?_
                      refine AWL.storeBox (i := 4) rfl rfl rfl ag_24 rfl (E rfl rfl) (E rfl rfl) rfl rfl (Nat.le_of_ble_eq_true rfl) ?_
                      refine AWL.nil ?_
                      refine AWP.done (by kernel_rfl) ?_
                      exact ⟨b10, trivial, Sub.cons rfl rfl (Sub.cons rfl rfl (Sub.cons rfl rfl (Sub.cons rfl rfl (Sub.cons rfl rfl (Sub.cons rfl rfl (Sub.cons rfl rfl Sub.nil)))))), rfl⟩
                  ·
                    refine AWL.allocOp rfl rfl (B rfl) rfl zc_24 (fun b10 => ?_)
                    refine AWL.perm (perm_ins (CS b5 b17 b6 A1 c1 m.1) ([.row Ar g.roots.length cr 54 2 ((metF [] g.roots).2.flatMap refCells), .box b1 27 (gCells g), .box b2 27 [.v (.slice none 0 0), .v (.slice none 0 0)], .box b8 27 [.v (.slice Ao m.2.length co), .v (.slice Ar g.roots.length cr)], .row Ao m.2.length co 24 4 (m.2.flatMap frCells)] ++ m.2.map frRow) _) ?_
                    refine AWL.nil ?_
                    refine AWP.one (i := 6) (by kernel_rfl) rfl ?_
                    refine AWL.y rfl rfl (B rfl) (Yv.indexSl (j := (m.1.getD m.2.length 0).toNat) rfl ss_25 (B rfl) (E rfl rfl) (E rfl rfl) (fun hg => ⟨(Int.toNat_of_nonneg (by omega)).symm, by simp only [len_things]; omega⟩)) ?_
                    refine AWL.nil ?_
                    refine AWP.one (i := 7) (by kernel_rfl) rfl ?_
                    refine AWL.y rfl rfl (B rfl) (Yv.loadRpA rfl ag_24 (E rfl rfl) (fun hg => thing_get (by omega))) ?_
                    refine AWL.nil ?_
                    refine AWP.one (i := 9) (by kernel_rfl) rfl ?_
                    refine AWL.storeBox (i := 4) rfl rfl rfl ag_24 rfl (E rfl rfl) (E rfl rfl) rfl rfl (Nat.le_of_ble_eq_true rfl) ?_
                    refine AWL.nil ?_
                    refine AWP.done (by kernel_rfl) ?_
                    exact ⟨b10, trivial, Sub.cons rfl rfl (Sub.cons rfl rfl (Sub.cons rfl rfl (Sub.cons rfl rfl (Sub.cons rfl rfl (Sub.cons rfl rfl (Sub.cons rfl rfl Sub.nil)))))), rfl⟩
                ·
                  refine AWL.allocOp rfl rfl (B rfl) rfl zc_24 (fun b10 => ?_)
                  refine AWL.perm (perm_ins (CS b5 b17 b6 A1 c1 m.1) ([.row Ar g.roots.length cr 54 2 ((metF [] g.roots).2.flatMap refCells), .box b1 27 (gCells g), .box b2 27 [.v (.slice none 0 0), .v (.slice none 0 0)], .box b8 27 [.v (.slice Ao m.2.length co), .v (.slice Ar g.roots.length cr)], .row Ao m.2.length co 24 4 (m.2.flatMap frCells)] ++ m.2.map frRow) _) ?_
                  refine AWL.nil ?_
                  refine AWP.one (i := 5) (by kernel_rfl) rfl ?_
                  refine AWL.y rfl rfl (B rfl) (Yv.loadEp rfl ag_2 (i := 3) rfl (E rfl rfl) (fun hg => z64_get (by omega))) ?_
                  refine AWL.nil ?_
                  refine AWP.one (i := 6) (by kernel_rfl) rfl ?_
                  refine AWL.y rfl rfl (B rfl) (Yv.indexSl (j := (m.1.getD m.2.length 0).toNat) rfl ss_25 (B rfl) (E rfl rfl) (E rfl rfl) (fun hg => ⟨(Int.toNat_of_nonneg (by omega)).symm, by simp only [len_things]; omega⟩)) ?_
                  refine AWL.nil ?_
                  refine AWP.one (i := 7) (by kernel_rfl) rfl ?_
                  refine AWL.y rfl rfl (B rfl) (Yv.loadRpA rfl ag_24 (E rfl rfl) (fun hg => thing_get (by omega))) ?_
                  refine AWL.nil ?_
                  refine AWP.one (i := 9) (by kernel_rfl) rfl ?_
                  refine AWL.storeBox (i := 4) rfl rfl rfl ag_24 rfl (E rfl rfl) (E rfl rfl) rfl rfl (Nat.le_of_ble_eq_true rfl) ?_
                  refine AWL.nil ?_
                  refine AWP.done (by kernel_rfl) ?_
                  exact ⟨b10, trivial, Sub.cons rfl rfl (Sub.cons rfl rfl (Sub.cons rfl rfl (Sub.cons rfl rfl (Sub.cons rfl rfl (Sub.cons rfl rfl (Sub.cons rfl rfl Sub.nil)))))), rfl⟩
              ·
                refine AWL.allocOp rfl rfl (B rfl) rfl zc_24 (fun b10 => ?_)
                refine AWL.perm (perm_ins (CS b5 b17 b6 A1 c1 m.1) ([.row Ar g.roots.length cr 54 2 ((metF [] g.roots).2.flatMap refCells), .box b1 27 (gCells g), .box b2 27 [.v (.slice none 0 0), .v (.slice none 0 0)], .box b8 27 [.v (.slice Ao m.2.length co), .v (.slice Ar g.roots.length cr)], .row Ao m.2.length co 24 4 (m.2.flatMap frCells)] ++ m.2.map frRow) _) ?_
                refine AWL.nil ?_
                refine AWP.one (i := 4) (by kernel_rfl) rfl ?_
                refine AWL.y rfl rfl (B rfl) (Yv.indexRow (j := m.2.length) rfl ss_65 (i := 3) rfl (E rfl rfl) (E rfl rfl) (fun hg => ⟨rfl, by omega⟩)) ?_
                refine AWL.nil ?_
                refine AWP.one (i := 5) (by kernel_rfl) rfl ?_
                refine AWL.y rfl rfl (B rfl) (Yv.loadEp rfl ag_2 (i := 3) rfl (E rfl rfl) (fun hg => z64_get (by omega))) ?_
                refine AWL.nil ?_
                refine AWP.one (i := 6) (by kernel_rfl) rfl ?_
                refine AWL.y rfl rfl (B rfl) (Yv.indexSl (j := (m.1.getD m.2.length 0).toNat) rfl ss_25 (B rfl) (E rfl rfl) (E rfl rfl) (fun hg => ⟨(Int.toNat_of_nonneg (by omega)).symm, by simp only [len_things]; omega⟩)) ?_
                refine AWL.nil ?_
                refine AWP.one (i := 7) (by kernel_rfl) rfl ?_
                refine AWL.y rfl rfl (B rfl) (Yv.loadRpA rfl ag_24 (E rfl rfl) (fun hg => thing_get (by omega))) ?_
                refine AWL.nil ?_
                refine AWP.one (i := 9) (by kernel_rfl) rfl ?_
                refine AWL.storeBox (i := 4) rfl rfl rfl ag_24 rfl (E rfl rfl) (E rfl rfl) rfl rfl (Nat.le_of_ble_eq_true rfl) ?_
                refine AWL.nil ?_
                refine AWP.done (by kernel_rfl) ?_
                exact ⟨b10, trivial, Sub.cons rfl rfl (Sub.cons rfl rfl (Sub.cons rfl rfl (Sub.cons rfl rfl (Sub.cons rfl rfl (Sub.cons rfl rfl (Sub.cons rfl rfl Sub.nil)))))), rfl⟩
            ·
              refine AWL.y rfl rfl (B rfl) (Yv.indexRow (j := m.2.length) rfl ss_65 (i := 3) rfl (E rfl rfl) (E rfl rfl) (fun hg => ⟨rfl, by omega⟩)) ?_
              refine AWL.nil ?_
              refine AWP.three (i := 1) (j := 5) (k := 8) (by kernel_rfl) rfl rfl rfl ?_ ?_ ?_
              ·
                refine AWL.y rfl rfl (B rfl) (Yv.loadBox rfl ag_25 (i := 5) rfl (E rfl rfl) rfl) ?_
                refine AWL.nil ?_
                refine AWP.two (i := 5) (j := 8) (by kernel_rfl) rfl rfl ?_ ?_
                ·
                  refine AWL.y rfl rfl (B rfl) (Yv.loadEp rfl ag_2 (i := 3) rfl (E rfl rfl) (fun hg => z64_get (by omega))) ?_
                  refine AWL.nil ?_
                  refine AWP.two (i := 6) (j := 8) (by kernel_rfl) rfl rfl ?_ ?_
                  ·
                    refine AWL.y rfl rfl (B rfl) (Yv.indexSl (j := (m.1.getD m.2.length 0).toNat) rfl ss_25 (B rfl) (E rfl rfl) (E rfl rfl) (fun hg => ⟨(Int.toNat_of_nonneg (by omega)).symm, by simp only [len_things]; omega⟩)) ?_
                    refine AWL.nil ?_
                    refine AWP.two (i := 7) (j := 8) (by kernel_rfl) rfl rfl ?_ ?_
                    ·
                      refine AWL.y rfl rfl (B rfl) (Yv.loadRpA rfl ag_24 (E rfl rfl) (fun hg => thing_get (by omega))) ?_
                      refine AWL.nil ?_
                      refine AWP.one (i := 8) (by kernel_rfl) rfl ?_
                      refine AWL.allocOp rfl rfl (B rfl) rfl zc_24 (fun b10 => ?_)
                      refine AWL.perm (perm_ins (CS b5 b17 b6 A1 c1 m.1) ([.row Ar g.roots.length cr 54 2 ((metF [] g.roots).2.flatMap refCells), .box b1 27 (gCells g), .box b2 27 [.v (.slice none 0 0), .v (.slice none 0 0)], .box b8 27 [.v (.slice Ao m.2.length co), .v (.slice Ar g.roots.length cr)], .row Ao m.2.length co 24 4 (m.2.flatMap frCells)] ++ m.2.map frRow) _) ?_
                      refine AWL.nil ?_
                      refine AWP.one (i := 9) (by kernel_rfl) rfl ?_
                      refine AWL.storeBox (i := 4) rfl rfl rfl ag_24 rfl (E rfl rfl) (E rfl rfl) rfl rfl (Nat.le_of_ble_eq_true rfl) ?_
                      refine AWL.nil ?_
                      refine AWP.done (by kernel_rfl) ?_
                      exact ⟨b10, trivial, Sub.cons rfl rfl (Sub.cons rfl rfl (Sub.cons rfl rfl (Sub.cons rfl rfl (Sub.cons rfl rfl (Sub.cons rfl rfl (Sub.cons rfl rfl Sub.nil)))))), rfl⟩
                    ·
                      refine AWL.allocOp rfl rfl (B rfl) rfl zc_24 (fun b10 => ?_)
                      refine AWL.perm (perm_ins (CS b5 b17 b6 A1 c1 m.1) ([.row Ar g.roots.length cr 54 2 ((metF [] g.roots).2.flatMap refCells), .box b1 27 (gCells g), .box b2 27 [.v (.slice none 0 0), .v (.slice none 0 0)], .box b8 27 [.v (.slice Ao m.2.length co), .v (.slice Ar g.roots.length cr)], .row Ao m.2.length co 24 4 (m.2.flatMap frCells)] ++ m.2.map frRow) _) ?_
                      refine AWL.nil ?_
                      refine AWP.one (i := 7) (by kernel_rfl) rfl ?_
                      refine AWL.y rfl rfl (B rfl) (Yv.loadRpA rfl ag_24 (E rfl rfl) (fun hg => thing_get (by omega))) ?_
                      refine AWL.nil ?_
                      refine AWP.one (i := 9) (by kernel_rfl) rfl ?_
                      refine AWL.storeBox (i := 4) rfl rfl rfl ag_24 rfl (E rfl rfl) (E rfl rfl) rfl rfl (Nat.le_of_ble_eq_true rfl) ?_
                      refine AWL.nil ?_
                      refine AWP.done (by kernel_rfl) ?_
                      exact ⟨b10, trivial, Sub.cons rfl rfl (Sub.cons rfl rfl (Sub.cons rfl rfl (Sub.cons rfl rfl (Sub.cons rfl rfl (Sub.cons rfl rfl (Sub.cons rfl rfl Sub.nil)))))), rfl⟩
                  ·
                    refine AWL.allocOp rfl rfl (B rfl) rfl zc_24 (fun b10 => ?_)
                    refine AWL.perm (perm_ins (CS b5 b17 b6 A1 c1 m.1) ([.row Ar g.roots.length cr 54 2 ((metF [] g.roots).2.flatMap refCells), .box b1 27 (gCells g), .box b2 27 [.v (.slice none 0 0), .v (.slice none 0 0)], .box b8 27 [.v (.slice Ao m.2.length co), .v (.slice Ar g.roots.length cr)], .row Ao m.2.length co 24 4 (m.2.flatMap frCells)] ++ m.2.map frRow) _) ?_
                    refine AWL.nil ?_
                    refine AWP.one (i := 6) (by kernel_rfl) rfl ?_
                    refine AWL.y rfl rfl (B rfl) (Yv.indexSl (j := (m.1.getD m.2.length 0).toNat) rfl ss_25 (B rfl) (E rfl rfl) (E rfl rfl) (fun hg => ⟨(Int.toNat_of_nonneg (by omega)).symm, by simp only [len_things]; omega⟩)) ?_
                    refine AWL.nil ?_
                    refine AWP.one (i := 7) (by kernel_rfl) rfl ?_
                    refine AWL.y rfl rfl (B rfl) (Yv.loadRpA rfl ag_24 (E rfl rfl) (fun hg => thing_get (by omega))) ?_
                    refine AWL.nil ?_
                    refine AWP.one (i := 9) (by kernel_rfl) rfl ?_
                    refine AWL.storeBox (i := 4) rfl rfl rfl ag_24 rfl (E rfl rfl) (E rfl rfl) rfl rfl (Nat.le_of_ble_eq_true rfl) ?_
                    refine AWL.nil ?_
                    refine AWP.done (by kernel_rfl) ?_
                    exact ⟨b10, trivial, Sub.cons rfl rfl (Sub.cons rfl rfl (Sub.cons rfl rfl (Sub.cons rfl rfl (Sub.cons rfl rfl (Sub.cons rfl rfl (Sub.cons rfl rfl Sub.nil)))))), rfl⟩
                ·
                  refine AWL.allocOp rfl rfl (B rfl) rfl zc_24 (fun b10 => ?_)
                  refine AWL.perm (perm_ins (CS b5 b17 b6 A1 c1 m.1) ([.row Ar g.roots.length cr 54 2 ((metF [] g.roots).2.flatMap refCells), .box b1 27 (gCells g), .box b2 27 [.v (.slice none 0 0), .v (.slice none 0 0)], .box b8 27 [.v (.slice Ao m.2.length co), .v (.slice Ar g.roots.length cr)], .row Ao m.2.length co 24 4 (m.2.flatMap frCells)] ++ m.2.map frRow) _) ?_
                  refine AWL.nil ?_
                  refine AWP.one (i := 5) (by kernel_rfl) rfl ?_
                  refine AWL.y rfl rfl (B rfl) (Yv.loadEp rfl ag_2 (i := 3) rfl (E rfl rfl) (fun hg => z64_get (by omega))) ?_
                  refine AWL.nil ?_
                  refine AWP.one (i := 6) (by kernel_rfl) rfl ?_
                  refine AWL.y rfl rfl (B rfl) (Yv.indexSl (j := (m.1.getD m.2.length 0).toNat) rfl ss_25 (B rfl) (E rfl rfl) (E rfl rfl) (fun hg => ⟨(Int.toNat_of_nonneg (by omega)).symm, by simp only [len_things]; omega⟩)) ?_
                  refine AWL.nil ?_
                  refine AWP.one (i := 7) (by kernel_rfl) rfl ?_
                  refine AWL.y rfl rfl (B rfl) (Yv.loadRpA rfl ag_24 (E rfl rfl) (fun hg => thing_get (by omega))) ?_
                  refine AWL.nil ?_
                  refine AWP.one (i := 9) (by kernel_rfl) rfl ?_
                  refine AWL.storeBox (i := 4) rfl rfl rfl ag_24 rfl (E rfl rfl) (E rfl rfl) rfl rfl (Nat.le_of_ble_eq_true rfl) ?_
                  refine AWL.nil ?_
                  refine AWP.done (by kernel_rfl) ?_
                  exact ⟨b10, trivial, Sub.cons rfl rfl (Sub.cons rfl rfl (Sub.cons rfl rfl (Sub.cons rfl rfl (Sub.cons rfl rfl (Sub.cons rfl rfl (Sub.cons rfl rfl Sub.nil)))))), rfl⟩
              ·
                refine AWL.y rfl rfl (B rfl) (Yv.loadEp rfl ag_2 (i := 3) rfl (E rfl rfl) (fun hg => z64_get (by omega))) ?_
                refine AWL.nil ?_
                refine AWP.two (i := 1) (j := 8) (by kernel_rfl) rfl rfl ?_ ?_
                ·
                  refine AWL.y rfl rfl (B rfl) (Yv.loadBox rfl ag_25 (i := 5) rfl (E rfl rfl) rfl) ?_
                  refine AWL.nil ?_
                  refine AWP.two (i := 6) (j := 8) (by kernel_rfl) rfl rfl ?_ ?_
                  ·
                    refine AWL.y rfl rfl (B rfl) (Yv.indexSl (j := (m.1.getD m.2.length 0).toNat) rfl ss_25 (B rfl) (E rfl rfl) (E rfl rfl) (fun hg => ⟨(Int.toNat_of_nonneg (by omega)).symm, by simp only [len_things]; omega⟩)) ?_
                    refine AWL.nil ?_
                    refine AWP.two (i := 7) (j := 8) (by kernel_rfl) rfl rfl ?_ ?_
                    ·
                      refine AWL.y rfl rfl (B rfl) (Yv.loadRpA rfl ag_24 (E rfl rfl) (fun hg => thing_get (by omega))) ?_
                      refine AWL.nil ?_
                      refine AWP.one (i := 8) (by kernel_rfl) rfl ?_
                      refine AWL.allocOp rfl rfl (B rfl) rfl zc_24 (fun b10 => ?_)
                      refine AWL.perm (perm_ins (CS b5 b17 b6 A1 c1 m.1) ([.row Ar g.roots.length cr 54 2 ((metF [] g.roots).2.flatMap refCells), .box b1 27 (gCells g), .box b2 27 [.v (.slice none 0 0), .v (.slice none 0 0)], .box b8 27 [.v (.slice Ao m.2.length co), .v (.slice Ar g.roots.length cr)], .row Ao m.2.length co 24 4 (m.2.flatMap frCells)] ++ m.2.map frRow) _) ?_
                      refine AWL.nil ?_
                      refine AWP.one (i := 9) (by kernel_rfl) rfl ?_
                      refine AWL.storeBox (i := 4) rfl rfl rfl ag_24 rfl (E rfl rfl) (E rfl rfl) rfl rfl (Nat.le_of_ble_eq_true rfl) ?_
                      refine AWL.nil ?_
                      refine AWP.done (by kernel_rfl) ?_
                      exact ⟨b10, trivial, Sub.cons rfl rfl (Sub.cons rfl rfl (Sub.cons rfl rfl (Sub.cons rfl rfl (Sub.cons rfl rfl (Sub.cons rfl rfl (Sub.cons rfl rfl Sub.nil)))))), rfl⟩
                    ·
                      refine AWL.allocOp rfl rfl (B rfl) rfl zc_24 (fun b10 => ?_)
                      refine AWL.perm (perm_ins (CS b5 b17 b6 A1 c1 m.1) ([.row Ar g.roots.length cr 54 2 ((metF [] g.roots).2.flatMap refCells), .box b1 27 (gCells g), .box b2 27 [.v (.slice none 0 0), .v (.slice none 0 0)], .box b8 27 [.v (.slice Ao m.2.length co), .v (.slice Ar g.roots.length cr)], .row Ao m.2.length co 24 4 (m.2.flatMap frCells)] ++ m.2.map frRow) _) ?_
                      refine AWL.nil ?_
                      refine AWP.one (i := 7) (by kernel_rfl) rfl ?_
                      refine AWL.y rfl rfl (B rfl) (Yv.loadRpA rfl ag_24 (E rfl rfl) (fun hg => thing_get (by omega))) ?_
                      refine AWL.nil ?_
                      refine AWP.one (i := 9) (by kernel_rfl) rfl ?_
                      refine AWL.storeBox (i := 4) rfl rfl rfl ag_24 rfl (E rfl rfl) (E rfl rfl) rfl rfl (Nat.le_of_ble_eq_true rfl) ?_
                      refine AWL.nil ?_
                      refine AWP.done (by kernel_rfl) ?_
                      exact ⟨b10, trivial, Sub.cons rfl rfl (Sub.cons rfl rfl (Sub.cons rfl rfl (Sub.cons rfl rfl (Sub.cons rfl rfl (Sub.cons rfl rfl (Sub.cons rfl rfl Sub.nil)))))), rfl⟩
                  ·
                    refine AWL.allocOp rfl rfl (B rfl) rfl zc_24 (fun b10 => ?_)
                    refine AWL.perm (perm_ins (CS b5 b17 b6 A1 c1 m.1) ([.row Ar g.roots.length cr 54 2 ((metF [] g.roots).2.flatMap refCells), .box b1 27 (gCells g), .box b2 27 [.v (.slice none 0 0), .v (.slice none 0 0)], .box b8 27 [.v (.slice Ao m.2.length co), .v (.slice Ar g.roots.length cr)], .row Ao m.2.length co 24 4 (m.2.flatMap frCells)] ++ m.2.map frRow) _) ?_
                    refine AWL.nil ?_
                    refine AWP.one (i := 6) (by kernel_rfl) rfl ?_
                    refine AWL.y rfl rfl (B rfl) (Yv.indexSl (j := (m.1.getD m.2.length 0).toNat) rfl ss_25 (B rfl) (E rfl rfl) (E rfl rfl) (fun hg => ⟨(Int.toNat_of_nonneg (by omega)).symm, by simp only [len_things]; omega⟩)) ?_
                    refine AWL.nil ?_
                    refine AWP.one (i := 7) (by kernel_rfl) rfl ?_
                    refine AWL.y rfl rfl (B rfl) (Yv.loadRpA rfl ag_24 (E rfl rfl) (fun hg => thing_get (by omega))) ?_
                    refine AWL.nil ?_
                    refine AWP.one (i := 9) (by kernel_rfl) rfl ?_
                    refine AWL.storeBox (i := 4) rfl rfl rfl ag_24 rfl (E rfl rfl) (E rfl rfl) rfl rfl (Nat.le_of_ble_eq_true rfl) ?_
                    refine AWL.nil ?_
                    refine AWP.done (by kernel_rfl) ?_
                    exact ⟨b10, trivial, Sub.cons rfl rfl (Sub.cons rfl rfl (Sub.cons rfl rfl (Sub.cons rfl rfl (Sub.cons rfl rfl (Sub.cons rfl rfl (Sub.cons rfl rfl Sub.nil)))))), rfl⟩
                ·
                  refine AWL.allocOp rfl rfl (B rfl) rfl zc_24 (fun b10 => ?_)
                  refine AWL.perm (perm_ins (CS b5 b17 b6 A1 c1 m.1) ([.row Ar g.roots.length cr 54 2 ((metF [] g.roots).2.flatMap refCells), .box b1 27 (gCells g), .box b2 27 [.v (.slice none 0 0), .v (.slice none 0 0)], .box b8 27 [.v (.slice Ao m.2.length co), .v (.slice Ar g.roots.length cr)], .row Ao m.2.length co 24 4 (m.2.flatMap frCells)] ++ m.2.map frRow) _) ?_
                  refine AWL.nil ?_
                  refine AWP.one (i := 1) (by kernel_rfl) rfl ?_
                  refine AWL.y rfl rfl (B rfl) (Yv.loadBox rfl ag_25 (i := 6) rfl (E rfl rfl) rfl) ?_
                  refine AWL.nil ?_
                  refine AWP.one (i := 6) (by kernel_rfl) rfl ?_
                  refine AWL.y rfl rfl (B rfl) (Yv.indexSl (j := (m.1.getD m.2.length 0).toNat) rfl ss_25 (B rfl) (E rfl rfl) (E rfl rfl) (fun hg => ⟨(Int.toNat_of_nonneg (by omega)).symm, by simp only [len_things]; omega⟩)) ?_
                  refine AWL.nil ?_
                  refine AWP.one (i := 7) (by kernel_rfl) rfl ?_
                  refine AWL.y rfl rfl (B rfl) (Yv.loadRpA rfl ag_24 (E rfl rfl) (fun hg => thing_get (by omega))) ?_
                  refine AWL.nil ?_
                  refine AWP.one (i := 9) (by kernel_rfl) rfl ?_
                  refine AWL.storeBox (i := 4) rfl rfl rfl ag_24 rfl (E rfl rfl) (E rfl rfl) rfl rfl (Nat.le_of_ble_eq_true rfl) ?_
                  refine AWL.nil ?_
                  refine AWP.done (by kernel_rfl) ?_
                  exact ⟨b10, trivial, Sub.cons rfl rfl (Sub.cons rfl rfl (Sub.cons rfl rfl (Sub.cons rfl rfl (Sub.cons rfl rfl (Sub.cons rfl rfl (Sub.cons rfl rfl Sub.nil)))))), rfl⟩
              ·
                refine AWL.allocOp rfl rfl (B rfl) rfl zc_24 (fun b10 => ?_)
                refine AWL.perm (perm_ins (CS b5 b17 b6 A1 c1 m.1) ([.row Ar g.roots.length cr 54 2 ((metF [] g.roots).2.flatMap refCells), .box b1 27 (gCells g), .box b2 27 [.v (.slice none 0 0), .v (.slice none 0 0)], .box b8 27 [.v (.slice Ao m.2.length co), .v (.slice Ar g.roots.length cr)], .row Ao m.2.length co 24 4 (m.2.flatMap frCells)] ++ m.2.map frRow) _) ?_
                refine AWL.nil ?_
                refine AWP.two (i := 1) (j := 5) (by kernel_rfl) rfl rfl ?_ ?_
                ·
                  refine AWL.y rfl rfl (B rfl) (Yv.loadBox rfl ag_25 (i := 6) rfl (E rfl rfl) rfl) ?_
                  refine AWL.nil ?_
                  refine AWP.one (i := 5) (by kernel_rfl) rfl ?_
                  refine AWL.y rfl rfl (B rfl) (Yv.loadEp rfl ag_2 (i := 3) rfl (E rfl rfl) (fun hg => z64_get (by omega))) ?_
                  refine AWL.nil ?_
                  refine AWP.one (i := 6) (by kernel_rfl) rfl ?_
                  refine AWL.y rfl rfl (B rfl) (Yv.indexSl (j := (m.1.getD m.2.length 0).toNat) rfl ss_25 (B rfl) (E rfl rfl) (E rfl rfl) (fun hg => ⟨(Int.toNat_of_nonneg (by omega)).symm, by simp only [len_things]; omega⟩)) ?_
                  refine AWL.nil ?_
                  refine AWP.one (i := 7) (by kernel_rfl) rfl ?_
                  refine AWL.y rfl rfl (B rfl) (Yv.loadRpA rfl ag_24 (E rfl rfl) (fun hg => thing_get (by omega))) ?_
                  refine AWL.nil ?_
                  refine AWP.one (i := 9) (by kernel_rfl) rfl ?_
                  refine AWL.storeBox (i := 4) rfl rfl rfl ag_24 rfl (E rfl rfl) (E rfl rfl) rfl rfl (Nat.le_of_ble_eq_true rfl) ?_
                  refine AWL.nil ?_
                  refine AWP.done (by kernel_rfl) ?_
                  exact ⟨b10, trivial, Sub.cons rfl rfl (Sub.cons rfl rfl (Sub.cons rfl rfl (Sub.cons rfl rfl (Sub.cons rfl rfl (Sub.cons rfl rfl (Sub.cons rfl rfl Sub.nil)))))), rfl⟩
                ·
                  refine AWL.y rfl rfl (B rfl) (Yv.loadEp rfl ag_2 (i := 3) rfl (E rfl rfl) (fun hg => z64_get (by omega))) ?_
                  refine AWL.nil ?_
                  refine AWP.one (i := 1) (by kernel_rfl) rfl ?_
                  refine AWL.y rfl rfl (B rfl) (Yv.loadBox rfl ag_25 (i := 6) rfl (E rfl rfl) rfl) ?_
                  refine AWL.nil ?_
                  refine AWP.one (i := 6) (by kernel_rfl) rfl ?_
                  refine AWL.y rfl rfl (B rfl) (Yv.indexSl (j := (m.1.getD m.2.length 0).toNat) rfl ss_25 (B rfl) (E rfl rfl) (E rfl rfl) (fun hg => ⟨(Int.toNat_of_nonneg (by omega)).symm, by simp only [len_things]; omega⟩)) ?_
                  refine AWL.nil ?_
                  refine AWP.one (i := 7) (by kernel_rfl) rfl ?_
                  refine AWL.y rfl rfl (B rfl) (Yv.loadRpA rfl ag_24 (E rfl rfl) (fun hg => thing_get (by omega))) ?_
                  refine AWL.nil ?_
                  refine AWP.one (i := 9) (by kernel_rfl) rfl ?_
                  refine AWL.storeBox (i := 4) rfl rfl rfl ag_24 rfl (E rfl rfl) (E rfl rfl) rfl rfl (Nat.le_of_ble_eq_true rfl) ?_
                  refine AWL.nil ?_
                  refine AWP.done (by kernel_rfl) ?_
                  exact ⟨b10, trivial, Sub.cons rfl rfl (Sub.cons rfl rfl (Sub.cons rfl rfl (Sub.cons rfl rfl (Sub.cons rfl rfl (Sub.cons rfl rfl (Sub.cons rfl rfl Sub.nil)))))), rfl⟩
            ·
              refine AWL.allocOp rfl rfl (B rfl) rfl zc_24 (fun b10 => ?_)
              refine AWL.perm (perm_ins (CS b5 b17 b6 A1 c1 m.1) ([.row Ar g.roots.length cr 54 2 ((metF [] g.roots).2.flatMap refCells), .box b1 27 (gCells g), .box b2 27 [.v (.slice none 0 0), .v (.slice none 0 0)], .box b8 27 [.v (.slice Ao m.2.length co), .v (.slice Ar g.roots.length cr)], .row Ao m.2.length co 24 4 (m.2.flatMap frCells)] ++ m.2.map frRow) _) ?_
              refine AWL.nil ?_
              refine AWP.two (i := 1) (j := 4) (by kernel_rfl) rfl rfl ?_ ?_
              ·
                refine AWL.y rfl rfl (B rfl) (Yv.loadBox rfl ag_25 (i := 6) rfl (E rfl rfl) rfl) ?_
                refine AWL.nil ?_
                refine AWP.one (i := 4) (by kernel_rfl) rfl ?_
                refine AWL.y rfl rfl (B rfl) (Yv.indexRow (j := m.2.length) rfl ss_65 (i := 3) rfl (E rfl rfl) (E rfl rfl) (fun hg => ⟨rfl, by omega⟩)) ?_
                refine AWL.nil ?_
                refine AWP.one (i := 5) (by kernel_rfl) rfl ?_
                refine AWL.y rfl rfl (B rfl) (Yv.loadEp rfl ag_2 (i := 3) rfl (E rfl rfl) (fun hg => z64_get (by omega))) ?_
                refine AWL.nil ?_
                refine AWP.one (i := 6) (by kernel_rfl) rfl ?_
                refine AWL.y rfl rfl (B rfl) (Yv.indexSl (j := (m.1.getD m.2.length 0).toNat) rfl ss_25 (B rfl) (E rfl rfl) (E rfl rfl) (fun hg => ⟨(Int.toNat_of_nonneg (by omega)).symm, by simp only [len_things]; omega⟩)) ?_
                refine AWL.nil ?_
                refine AWP.one (i := 7) (by kernel_rfl) rfl ?_
                refine AWL.y rfl rfl (B rfl) (Yv.loadRpA rfl ag_24 (E rfl rfl) (fun hg => thing_get (by omega))) ?_
                refine AWL.nil ?_
                refine AWP.one (i := 9) (by kernel_rfl) rfl ?_
                refine AWL.storeBox (i := 4) rfl rfl rfl ag_24 rfl (E rfl rfl) (E rfl rfl) rfl rfl (Nat.le_of_ble_eq_true rfl) ?_
                refine AWL.nil ?_
                refine AWP.done (by kernel_rfl) ?_
                exact ⟨b10, trivial, Sub.cons rfl rfl (Sub.cons rfl rfl (Sub.cons rfl rfl (Sub.cons rfl rfl (Sub.cons rfl rfl (Sub.cons rfl rfl (Sub.cons rfl rfl Sub.nil)))))), rfl⟩
              ·
                refine AWL.y rfl rfl (B rfl) (Yv.indexRow (j := m.2.length) rfl ss_65 (i := 3) rfl (E rfl rfl) (E rfl rfl) (fun hg => ⟨rfl, by omega⟩)) ?_
                refine AWL.nil ?_
                refine AWP.two (i := 1) (j := 5) (by kernel_rfl) rfl rfl ?_ ?_
                ·
                  refine AWL.y rfl rfl (B rfl) (Yv.loadBox rfl ag_25 (i := 6) rfl (E rfl rfl) rfl) ?_
                  refine AWL.nil ?_
                  refine AWP.one (i := 5) (by kernel_rfl) rfl ?_
                  refine AWL.y rfl rfl (B rfl) (Yv.loadEp rfl ag_2 (i := 3) rfl (E rfl rfl) (fun hg => z64_get (by omega))) ?_
                  refine AWL.nil ?_
                  refine AWP.one (i := 6) (by kernel_rfl) rfl ?_
                  refine AWL.y rfl rfl (B rfl) (Yv.indexSl (j := (m.1.getD m.2.length 0).toNat) rfl ss_25 (B rfl) (E rfl rfl) (E rfl rfl) (fun hg => ⟨(Int.toNat_of_nonneg (by omega)).symm, by simp only [len_things]; omega⟩)) ?_
                  refine AWL.nil ?_
                  refine AWP.one (i := 7) (by kernel_rfl) rfl ?_
                  refine AWL.y rfl rfl (B rfl) (Yv.loadRpA rfl ag_24 (E rfl rfl) (fun hg => thing_get (by omega))) ?_
                  refine AWL.nil ?_
                  refine AWP.one (i := 9) (by kernel_rfl) rfl ?_
                  refine AWL.storeBox (i := 4) rfl rfl rfl ag_24 rfl (E rfl rfl) (E rfl rfl) rfl rfl (Nat.le_of_ble_eq_true rfl) ?_
                  refine AWL.nil ?_
                  refine AWP.done (by kernel_rfl) ?_
                  exact ⟨b10, trivial, Sub.cons rfl rfl (Sub.cons rfl rfl (Sub.cons rfl rfl (Sub.cons rfl rfl (Sub.cons rfl rfl (Sub.cons rfl rfl (Sub.cons rfl rfl Sub.nil)))))), rfl⟩
                ·
                  refine AWL.y rfl rfl (B rfl) (Yv.loadEp rfl ag_2 (i := 3) rfl (E rfl rfl) (fun hg => z64_get (by omega))) ?_
                  refine AWL.nil ?_
                  refine AWP.one (i := 1) (by kernel_rfl) rfl ?_
                  refine AWL.y rfl rfl (B rfl) (Yv.loadBox rfl ag_25 (i := 6) rfl (E rfl rfl) rfl) ?_
                  refine AWL.nil ?_
                  refine AWP.one (i := 6) (by kernel_rfl) rfl ?_
                  refine AWL.y rfl rfl (B rfl) (Yv.indexSl (j := (m.1.getD m.2.length 0).toNat) rfl ss_25 (B rfl) (E rfl rfl) (E rfl rfl) (fun hg => ⟨(Int.toNat_of_nonneg (by omega)).symm, by simp only [len_things]; omega⟩)) ?_
                  refine AWL.nil ?_
                  refine AWP.one (i := 7) (by kernel_rfl) rfl ?_
                  refine AWL.y rfl rfl (B rfl) (Yv.loadRpA rfl ag_24 (E rfl rfl) (fun hg => thing_get (by omega))) ?_
                  refine AWL.nil ?_
                  refine AWP.one (i := 9) (by kernel_rfl) rfl ?_
                  refine AWL.storeBox (i := 4) rfl rfl rfl ag_24 rfl (E rfl rfl) (E rfl rfl) rfl rfl (Nat.le_of_ble_eq_true rfl) ?_
                  refine AWL.nil ?_
                  refine AWP.done (by kernel_rfl) ?_
                  exact ⟨b10, trivial, Sub.cons rfl rfl (Sub.cons rfl rfl (Sub.cons rfl rfl (Sub.cons rfl rfl (Sub.cons rfl rfl (Sub.cons rfl rfl (Sub.cons rfl rfl Sub.nil)))))), rfl⟩
          ·
            refine AWL.allocOp rfl rfl (B rfl) rfl zc_24 (fun b10 => ?_)
            refine AWL.perm (perm_ins (CS b5 b17 b6 A1 c1 m.1) ([.row Ar g.roots.length cr 54 2 ((metF [] g.roots).2.flatMap refCells), .box b1 27 (gCells g), .box b2 27 [.v (.slice none 0 0), .v (.slice none 0 0)], .box b8 27 [.v (.slice Ao m.2.length co), .v (.slice Ar g.roots.length cr)], .row Ao m.2.length co 24 4 (m.2.flatMap frCells)] ++ m.2.map frRow) _) ?_
            refine AWL.nil ?_
            refine AWP.two (i := 1) (j := 2) (by kernel_rfl) rfl rfl ?_ ?_
            ·
              refine AWL.y rfl rfl (B rfl) (Yv.loadBox rfl ag_25 (i := 6) rfl (E rfl rfl) rfl) ?_
              refine AWL.nil ?_
              refine AWP.one (i := 2) (by kernel_rfl) rfl ?_
              refine AWL.y rfl rfl (B rfl) (Yv.loadBox rfl ag_65 (i := 2) rfl (E rfl rfl) rfl) ?_
              refine AWL.nil ?_
              refine AWP.one (i := 4) (by kernel_rfl) rfl ?_
              refine AWL.y rfl rfl (B rfl) (Yv.indexRow (j := m.2.length) rfl ss_65 (i := 3) rfl (E rfl rfl) (E rfl rfl) (fun hg => ⟨rfl, by omega⟩)) ?_
              refine AWL.nil ?_
              refine AWP.one (i := 5) (by kernel_rfl) rfl ?_
              refine AWL.y rfl rfl (B rfl) (Yv.loadEp rfl ag_2 (i := 3) rfl (E rfl rfl) (fun hg => z64_get (by omega))) ?_
              refine AWL.nil ?_
              refine AWP.one (i := 6) (by kernel_rfl) rfl ?_
              refine AWL.y rfl rfl (B rfl) (Yv.indexSl (j := (m.1.getD m.2.length 0).toNat) rfl ss_25 (B rfl) (E rfl rfl) (E rfl rfl) (fun hg => ⟨(Int.toNat_of_nonneg (by omega)).symm, by simp only [len_things]; omega⟩)) ?_
              refine AWL.nil ?_
              refine AWP.one (i := 7) (by kernel_rfl) rfl ?_
              refine AWL.y rfl rfl (B rfl) (Yv.loadRpA rfl ag_24 (E rfl rfl) (fun hg => thing_get (by omega))) ?_
              refine AWL.nil ?_
              refine AWP.one (i := 9) (by kernel_rfl) rfl ?_
              refine AWL.storeBox (i := 4) rfl rfl rfl ag_24 rfl (E rfl rfl) (E rfl rfl) rfl rfl (Nat.le_of_ble_eq_true rfl) ?_
              refine AWL.nil ?_
              refine AWP.done (by kernel_rfl) ?_
              exact ⟨b10, trivial, Sub.cons rfl rfl (Sub.cons rfl rfl (Sub.cons rfl rfl (Sub.cons rfl rfl (Sub.cons rfl rfl (Sub.cons rfl rfl (Sub.cons rfl rfl Sub.nil)))))), rfl⟩
            ·
              refine AWL.y rfl rfl (B rfl) (Yv.loadBox rfl ag_65 (i := 2) rfl (E rfl rfl) rfl) ?_
              refine AWL.nil ?_
              refine AWP.two (i := 1) (j := 4) (by kernel_rfl) rfl rfl ?_ ?_
              ·
                refine AWL.y rfl rfl (B rfl) (Yv.loadBox rfl ag_25 (i := 6) rfl (E rfl rfl) rfl) ?_
                refine AWL.nil ?_
                refine AWP.one (i := 4) (by kernel_rfl) rfl ?_
                refine AWL.y rfl rfl (B rfl) (Yv.indexRow (j := m.2.length) rfl ss_65 (i := 3) rfl (E rfl rfl) (E rfl rfl) (fun hg => ⟨rfl, by omega⟩)) ?_
                refine AWL.nil ?_
                refine AWP.one (i := 5) (by kernel_rfl) rfl ?_
                refine AWL.y rfl rfl (B rfl) (Yv.loadEp rfl ag_2 (i := 3) rfl (E rfl rfl) (fun hg => z64_get (by omega))) ?_
                refine AWL.nil ?_
                refine AWP.one (i := 6) (by kernel_rfl) rfl ?_
                refine AWL.y rfl rfl (B rfl) (Yv.indexSl (j := (m.1.getD m.2.length 0).toNat) rfl ss_25 (B rfl) (E rfl rfl) (E rfl rfl) (fun hg => ⟨(Int.toNat_of_nonneg (by omega)).symm, by simp only [len_things]; omega⟩)) ?_
                refine AWL.nil ?_
                refine AWP.one (i := 7) (by kernel_rfl) rfl ?_
                refine AWL.y rfl rfl (B rfl) (Yv.loadRpA rfl ag_24 (E rfl rfl) (fun hg => thing_get (by omega))) ?_
                refine AWL.nil ?_
                refine AWP.one (i := 9) (by kernel_rfl) rfl ?_
                refine AWL.storeBox (i := 4) rfl rfl rfl ag_24 rfl (E rfl rfl) (E rfl rfl) rfl rfl (Nat.le_of_ble_eq_true rfl) ?_
                refine AWL.nil ?_
                refine AWP.done (by kernel_rfl) ?_
                exact ⟨b10, trivial, Sub.cons rfl rfl (Sub.cons rfl rfl (Sub.cons rfl rfl (Sub.cons rfl rfl (Sub.cons rfl rfl (Sub.cons rfl rfl (Sub.cons rfl rfl Sub.nil)))))), rfl⟩
              ·
                refine AWL.y rfl rfl (B rfl) (Yv.indexRow (j := m.2.length) rfl ss_65 (i := 3) rfl (E rfl rfl) (E rfl rfl) (fun hg => ⟨rfl, by omega⟩)) ?_
                refine AWL.nil ?_
                refine AWP.two (i := 1) (j := 5) (by kernel_rfl) rfl rfl ?_ ?_
                ·
                  refine AWL.y rfl rfl (B rfl) (Yv.loadBox rfl ag_25 (i := 6) rfl (E rfl rfl) rfl) ?_
                  refine AWL.nil ?_
                  refine AWP.one (i := 5) (by kernel_rfl) rfl ?_
                  refine AWL.y rfl rfl (B rfl) (Yv.loadEp rfl ag_2 (i := 3) rfl (E rfl rfl) (fun hg => z64_get (by omega))) ?_
                  refine AWL.nil ?_
                  refine AWP.one (i := 6) (by kernel_rfl) rfl ?_
                  refine AWL.y rfl rfl (B rfl) (Yv.indexSl (j := (m.1.getD m.2.length 0).toNat) rfl ss_25 (B rfl) (E rfl rfl) (E rfl rfl) (fun hg => ⟨(Int.toNat_of_nonneg (by omega)).symm, by simp only [len_things]; omega⟩)) ?_
                  refine AWL.nil ?_
                  refine AWP.one (i := 7) (by kernel_rfl) rfl ?_
                  refine AWL.y rfl rfl (B rfl) (Yv.loadRpA rfl ag_24 (E rfl rfl) (fun hg => thing_get (by omega))) ?_
                  refine AWL.nil ?_
                  refine AWP.one (i := 9) (by kernel_rfl) rfl ?_
                  refine AWL.storeBox (i := 4) rfl rfl rfl ag_24 rfl (E rfl rfl) (E rfl rfl) rfl rfl (Nat.le_of_ble_eq_true rfl) ?_
                  refine AWL.nil ?_
                  refine AWP.done (by kernel_rfl) ?_
                  exact ⟨b10, trivial, Sub.cons rfl rfl (Sub.cons rfl rfl (Sub.cons rfl rfl (Sub.cons rfl rfl (Sub.cons rfl rfl (Sub.cons rfl rfl (Sub.cons rfl rfl Sub.nil)))))), rfl⟩
                ·
                  refine AWL.y rfl rfl (B rfl) (Yv.loadEp rfl ag_2 (i := 3) rfl (E rfl rfl) (fun hg => z64_get (by omega))) ?_
                  refine AWL.nil ?_
                  refine AWP.one (i := 1) (by kernel_rfl) rfl ?_
                  refine AWL.y rfl rfl (B rfl) (Yv.loadBox rfl ag_25 (i := 6) rfl (E rfl rfl) rfl) ?_
                  refine AWL.nil ?_
                  refine AWP.one (i := 6) (by kernel_rfl) rfl ?_
                  refine AWL.y rfl rfl (B rfl) (Yv.indexSl (j := (m.1.getD m.2.length 0).toNat) rfl ss_25 (B rfl) (E rfl rfl) (E rfl rfl) (fun hg => ⟨(Int.toNat_of_nonneg (by omega)).symm, by simp only [len_things]; omega⟩)) ?_
                  refine AWL.nil ?_
                  refine AWP.one (i := 7) (by kernel_rfl) rfl ?_
                  refine AWL.y rfl rfl (B rfl) (Yv.loadRpA rfl ag_24 (E rfl rfl) (fun hg => thing_get (by omega))) ?_
                  refine AWL.nil ?_
                  refine AWP.one (i := 9) (by kernel_rfl) rfl ?_
                  refine AWL.storeBox (i := 4) rfl rfl rfl ag_24 rfl (E rfl rfl) (E rfl rfl) rfl rfl (Nat.le_of_ble_eq_true rfl) ?_
                  refine AWL.nil ?_
                  refine AWP.done (by kernel_rfl) ?_
                  exact ⟨b10, trivial, Sub.cons rfl rfl (Sub.cons rfl rfl (Sub.cons rfl rfl (Sub.cons rfl rfl (Sub.cons rfl rfl (Sub.cons rfl rfl (Sub.cons rfl rfl Sub.nil)))))), rfl⟩
        ·
          rintro b10 hmid
          refine AW.rseq ?_
          refine AWL.y rfl rfl (B rfl) (Yv.move rfl (E rfl rfl)) ?_
          refine AWL.y rfl rfl (B rfl) (Yv.fieldBox rfl fo_24_3 (E rfl rfl)) ?_
          refine AWL.y rfl rfl (B rfl) (Yv.loadBox rfl ag_22 (i := 4) rfl (E rfl rfl) rfl) ?_
          refine AWL.call rfl rfl (B rfl) rfl ce_42 (E rfl rfl) (evsC (E rfl rfl) evs0) (S1 := (CS b5 b17 b6 A1 c1 m.1)) (S2 := _) rfl (met42R (g.things.getD (m.1.getD m.2.length 0).toNat default).refs m.1 b5 b17 b6 A1 c1 hzt.rl (by omega)) ?_
          rintro t41 S41 ⟨Ax, cx_, A2, c2, rfl, rfl⟩
          refine AWL.y rfl rfl (B rfl) (Yv.fieldBox rfl fo_24_3 (E rfl rfl)) ?_
          refine AWL.storeBox (i := 5) rfl rfl rfl ag_22 rfl (E rfl rfl) (E rfl rfl) rfl rfl (Nat.le_of_ble_eq_true rfl) ?_
          refine AWL.nil ?_
          refine AW.region ?_
          refine AWL.y rfl rfl (B rfl) (Yv.fieldBox rfl fo_27_0 (E rfl rfl)) ?_
          refine AWL.y rfl rfl (B rfl) (Yv.loadBox rfl ag_25 (i := 9) rfl (E rfl rfl) rfl) ?_
          refine AWL.y rfl rfl (B rfl) (Yv.loadBoxA rfl ag_24 (i := 5) rfl (E rfl rfl) rfl rfl) ?_
          refine AWL.buildSliceE rfl rfl (B rfl) rfl el_25 (B rfl) rfl (evsC (E rfl rfl) evs0) (Nat.le_of_ble_eq_true rfl) rfl rfl ?_
          refine AWL.appendRow (i := 10) rfl rfl (B rfl) rfl el_25 (B rfl) rfl (E rfl rfl) (SrcT.sl so_25 (B rfl) (E rfl rfl) rfl) (by unfold maxLen; omega) (by omega) (fun A47 c47 => ?_)
          refine AWL.y rfl rfl (B rfl) (Yv.fieldBox rfl fo_27_0 (E rfl rfl)) ?_
          refine AWL.storeBox (i := 9) rfl rfl rfl ag_25 rfl (E rfl rfl) (E rfl rfl) rfl rfl (Nat.le_of_ble_eq_true rfl) ?_
          refine AWL.nil ?_
          refine AW.dropAt 5 ?_
          refine AW.perm (perm_end (CS b5 b17 b6 A2 c2 (metF m.1 (g.things.getD (m.1.getD m.2.length 0).toNat default).refs).1) ([_, _, _, _, _] ++ m.2.map frRow) _) ?_
          refine AW.region ?_
          refine AWL.y rfl rfl (B rfl) (Yv.move rfl (E rfl rfl)) ?_
          refine AWL.y rfl rfl (B rfl) (Yv.addN_i64 rfl (E rfl rfl) (E rfl rfl) (fun hg => by omega)) ?_
          refine AWL.y rfl rfl (B rfl) (Yv.assign rfl (E rfl rfl)) ?_
          refine AWL.nil ?_
          refine ⟨((metF m.1 (g.things.getD (m.1.getD m.2.length 0).toNat default).refs).1, m.2 ++ [(⟨Ax, (g.things.getD (m.1.getD m.2.length 0).toNat default).refs.length, cx_, reR (g.things.getD (m.1.getD m.2.length 0).toNat default) (metF m.1 (g.things.getD (m.1.getD m.2.length 0).toNat default).refs).2⟩ : Fr)]), A2, c2, A47, c47, ⟨?_, ?_, ?_⟩, ?_, ?_, ?_⟩
          · have hcs := canonS_step (g := g) (f := g.things.length - (m.2 ++ [(⟨Ax, (g.things.getD (m.1.getD m.2.length 0).toNat default).refs.length, cx_, reR (g.things.getD (m.1.getD m.2.length 0).toNat default) (metF m.1 (g.things.getD (m.1.getD m.2.length 0).toNat default).refs).2⟩ : Fr)]).length) (row := m.1) (out := m.2.map (·.t)) (by rw [hmm]; omega)
            rw [hmm] at hcs
            rw [hcn, show g.things.length - m.2.length = (g.things.length - (m.2 ++ [(⟨Ax, (g.things.getD (m.1.getD m.2.length 0).toNat default).refs.length, cx_, reR (g.things.getD (m.1.getD m.2.length 0).toNat default) (metF m.1 (g.things.getD (m.1.getD m.2.length 0).toNat default).refs).2⟩ : Fr)]).length) + 1 by rw [List.length_append, List.length_singleton]; omega, hcs, List.map_append]
            rfl
          · exact metF_ok hok (check_thing hck _ (getD_mem' (by omega))).2
          · have := metF_row0 (g.things.getD (m.1.getD m.2.length 0).toNat default).refs m.1
            rw [List.length_append, List.length_singleton]; show m.2.length + 1 ≤ (metF m.1 (g.things.getD (m.1.getD m.2.length 0).toNat default).refs).1.length; omega
          · rw [List.length_append, List.length_singleton]; omega
          · exact (Sub.cons rfl rfl (Sub.cons rfl rfl (Sub.cons rfl rfl (Sub.cons rfl rfl (Sub.cons rfl rfl (Sub.cons rfl (by simp) Sub.nil))))))
          · simp only [fr_flat, fr_map, List.length_append, List.length_singleton, List.append_assoc]
            rfl
      ·
        try replace h1f := of_decide_eq_false h1f
        refine AW.exit ?_
        refine AW.rseq ?_
        refine AWL.y rfl rfl (B rfl) (Yv.loadBoxA rfl ag_27 (i := 7) rfl (E rfl rfl) rfl rfl) ?_
        refine AWL.storeBox (i := 6) rfl rfl rfl ag_27 rfl (E rfl rfl) (E rfl rfl) rfl rfl (Nat.le_of_ble_eq_true rfl) ?_
        refine AWL.y rfl rfl (B rfl) (Yv.assign rfl (E rfl rfl)) ?_
        refine AWL.nil ?_
        refine AW.ret (retI (.cellA (i := 6) rfl ag_27 rfl rfl rfl (.tmp rfl .nil)) ?_)
        have e1 : canonS g g.things.length (metF [] g.roots).1 [] = (m.1, m.2.map (·.t)) := (by rw [hcn, canonS_end (by omega)])
        have e2 : canonG g = ⟨m.2.map (·.t), (metF [] g.roots).2⟩ := (by rw [canonG, if_pos hck, canonF, e1])
        rw [h0f, e2]
        exact ⟨Ao, co, Ar, g.roots.length, cr, m.2, _, _, _, _, _, _, _, rfl, rfl, rfl⟩

set_option maxHeartbeats 400000 in
theorem spoil20 (A : Option Addr) (c : Nat) (Ar : Option Addr) (nr cr : Nat) (fs : List Fr) (rc : List T) :
    ACalls Try.prog 20 [.agg [.v (.slice A fs.length c), .v (.slice Ar nr cr)]] ([.row Ar nr cr 54 2 rc, .row A fs.length c 24 4 (fs.flatMap frCells)] ++ fs.map frRow) (fun _ _ => True) := by
  refine ACalls.intro Try.func20 rfl Try.ntmps20 (Nat.le_of_ble_eq_true rfl) rfl fun X w0 => ?_
  refine AW.rseq ?_
  refine AWL.boxOp rfl rfl (B rfl) rfl (E rfl rfl) rfl (fun b1 => ?_)
  refine AWL.perm (List.perm_append_singleton _ _).symm ?_
  refine AWL.nil ?_
  refine AW.rowMax 1 rfl (fun hn1 hc1 hl1 => ?_)
  refine AW.rowMax 2 rfl (fun hn2 hc2 hl2 => ?_)
  unfold maxLen at hc1 hc2
  refine AW.seq ?_
  refine AW.rseq ?_
  refine AWL.y rfl rfl (B rfl) (Yv.assign rfl (E rfl rfl)) ?_
  refine AWL.nil ?_
  refine AW.block ?_
  refine AW.loop2 (fun (j : Nat) (pre : List T) => [(1, true, .v (vp b1)), (2, true, .v (.int .i64 (j : Int)))]) (fun (j : Nat) (pre : List T) => (.box b1 27 [.v (.slice A fs.length c), .v (.slice Ar nr cr)] :: .row Ar nr cr 54 2 rc :: .row A fs.length c 24 4 (pre ++ (fs.drop j).flatMap frCells) :: (fs.drop j).map frRow)) (fun (j : Nat) (pre : List T) => j ≤ fs.length ∧ pre.length = j * 4) (fun (j : Nat) (pre : List T) => fs.length - j) 0 ([]) ?_ ?_ ?_ ?_
  · exact ⟨Nat.zero_le _, rfl⟩
  · exact (Sub.cons rfl rfl (Sub.cons rfl rfl Sub.nil))
  · rfl
  ·
    intro j pre hinv
    obtain ⟨hjl, hpre⟩ := hinv
    refine AW.seq ?_
    refine AW.rseq ?_
    refine AWL.y rfl rfl (B rfl) (Yv.move rfl (E rfl rfl)) ?_
    refine AWL.y rfl rfl (B rfl) (Yv.fieldBox rfl fo_27_0 (E rfl rfl)) ?_
    refine AWL.y rfl rfl (B rfl) (Yv.loadBox rfl ag_25 (i := 0) rfl (E rfl rfl) rfl) ?_
    refine AWL.y rfl rfl (B rfl) (Yv.lenV rfl so_25 (E rfl rfl)) ?_
    refine AWL.y rfl rfl (B rfl) (Yv.lss rfl (E rfl rfl) (E rfl rfl)) ?_
    refine AWL.nil ?_
    refine AW.cond rfl (fun h0t => ?_) (fun h0f => ?_)
    ·
      try replace h0t := of_decide_eq_true h0t
      refine AW.skip ?_
      refine AW.seq ?_
      refine AW.block ?_
      refine AW.eqS (S' := .box b1 27 [.v (.slice A fs.length c), .v (.slice Ar nr cr)] :: .row Ar nr cr 54 2 rc :: .row A fs.length c 24 4 (pre ++ (frCells (fs.getD j default) ++ (fs.drop (j + 1)).flatMap frCells)) :: frRow (fs.getD j default) :: (fs.drop (j + 1)).map frRow) (by rw [drop_fr (show j < fs.length by omega)]; rfl) ?_
      refine AW.rowMax 3 rfl (fun hn3 hc3 hl3 => ?_)
      unfold maxLen at hc3
      refine AW.rseqQ rfl (by kernel_rfl) ?_
      refine AWQ.y rfl rfl (B rfl) (Yv.fieldBox rfl fo_27_0 (E rfl rfl)) ?_
      refine AWQ.y rfl rfl (B rfl) (Yv.loadBox rfl ag_25 (i := 0) rfl (E rfl rfl) rfl) ?_
      refine AWQ.y rfl rfl (B rfl) (Yv.move rfl (E rfl rfl)) ?_
      refine AWQ.y rfl rfl (B rfl) (Yv.indexRow rfl ss_25 (i := 2) rfl (E rfl rfl) (E rfl rfl) (fun hg => ⟨rfl, by omega⟩)) ?_
      refine AWQ.y rfl rfl (B rfl) (Yv.fieldEp rfl fo_24_3 (E rfl rfl)) ?_
      refine AWQ.y rfl rfl (B rfl) (Yv.loadEp rfl ag_22 (i := 2) rfl (E rfl rfl) (fun hg => fr_at hpre)) ?_
      refine AWQ.y rfl rfl (B rfl) (Yv.fieldBox rfl fo_27_0 (E rfl rfl)) ?_
      refine AWQ.y rfl rfl (B rfl) (Yv.loadBox rfl ag_25 (i := 0) rfl (E rfl rfl) rfl) ?_
      refine AWQ.y rfl rfl (B rfl) (Yv.move rfl (E rfl rfl)) ?_
      refine AWQ.y rfl rfl (B rfl) (Yv.indexRow rfl ss_25 (i := 2) rfl (E rfl rfl) (E rfl rfl) (fun hg => ⟨rfl, by omega⟩)) ?_
      refine AWQ.y rfl rfl (B rfl) (Yv.fieldEp rfl fo_24_3 (E rfl rfl)) ?_
      refine AWQ.y rfl rfl (B rfl) (Yv.loadEp rfl ag_22 (i := 2) rfl (E rfl rfl) (fun hg => fr_at hpre)) ?_
      refine AWQ.y rfl rfl (B rfl) (Yv.capV rfl so_22 (E rfl rfl)) ?_
      refine AWQ.y rfl rfl (B rfl) (Yv.sliceRow0 (m := (fs.getD j default).c) (i := 3) rfl ss_22 rfl (E rfl rfl) (Bound.some_ (E rfl rfl) (fun _ => rfl)) (fun hg => Nat.le_refl _)) ?_
      refine AWQ.y rfl rfl (B rfl) (Yv.assign rfl (E rfl rfl)) ?_
      refine AWQ.nil ?_
      refine AW.seq ?_
      refine AW.rseq ?_
      refine AWL.y rfl rfl (B rfl) (Yv.assign rfl (E rfl rfl)) ?_
      refine AWL.nil ?_
      refine AW.block ?_
      refine AW.loop2 (fun (k : Nat) (cs : List T) => [(1, true, .v (vp b1)), (2, true, .v (.int .i64 (j : Int))), (3, true, .v (.slice (fs.getD j default).A (fs.getD j default).c (fs.getD j default).c)), (4, true, .v (.int .i64 (k : Int)))]) (fun (k : Nat) (cs : List T) => (.box b1 27 [.v (.slice A fs.length c), .v (.slice Ar nr cr)] :: .row Ar nr cr 54 2 rc :: .row A fs.length c 24 4 (pre ++ (frCells (fs.getD j default) ++ (fs.drop (j + 1)).flatMap frCells)) :: .row (fs.getD j default).A (fs.getD j default).n (fs.getD j default).c 54 2 cs :: (fs.drop (j + 1)).map frRow)) (fun (k : Nat) (cs : List T) => k ≤ (fs.getD j default).c) (fun (k : Nat) (cs : List T) => (fs.getD j default).c - k) 0 ((fs.getD j default).t.refs.flatMap refCells) ?_ ?_ ?_ ?_
      · exact Nat.zero_le _
      · exact (Sub.cons rfl rfl (Sub.cons rfl rfl (Sub.cons rfl rfl (Sub.cons rfl rfl Sub.nil))))
      · rfl
      ·
        intro k cs hinv
        refine AW.seq ?_
        refine AW.rseq ?_
        refine AWL.y rfl rfl (B rfl) (Yv.move rfl (E rfl rfl)) ?_
        refine AWL.y rfl rfl (B rfl) (Yv.move rfl (E rfl rfl)) ?_
        refine AWL.y rfl rfl (B rfl) (Yv.lenV rfl so_22 (E rfl rfl)) ?_
        refine AWL.y rfl rfl (B rfl) (Yv.lss rfl (E rfl rfl) (E rfl rfl)) ?_
        refine AWL.nil ?_
        refine AW.cond rfl (fun h1t => ?_) (fun h1f => ?_)
        ·
          try replace h1t := of_decide_eq_true h1t
          refine AW.skip ?_
          refine AW.seq ?_
          refine AW.block ?_
          refine AW.region ?_
          refine AWL.y rfl rfl (B rfl) (Yv.move rfl (E rfl rfl)) ?_
          refine AWL.y rfl rfl (B rfl) (Yv.move rfl (E rfl rfl)) ?_
          refine AWL.y rfl rfl (B rfl) (Yv.buildS rfl sh_54 (evpC (E rfl rfl) evp0) (fun _ => rfl)) ?_
          refine AWL.y rfl rfl (B rfl) (Yv.indexCap (j := k) (i := 3) rfl ss_22 rfl (E rfl rfl) (E rfl rfl) (fun hg => ⟨rfl, by omega⟩)) ?_
          refine AWL.storeCap (i := 3) (m := 2) rfl rfl rfl ag_54 rfl (E rfl rfl) (E rfl rfl) rfl rfl (by decide) (by omega) (by omega) (fun cs2 hcs2 => ?_)
          refine AWL.nil ?_
          refine AW.region ?_
          refine AWL.y rfl rfl (B rfl) (Yv.move rfl (E rfl rfl)) ?_
          refine AWL.y rfl rfl (B rfl) (Yv.addN_i64 rfl (E rfl rfl) (E rfl rfl) (fun hg => by omega)) ?_
          refine AWL.y rfl rfl (B rfl) (Yv.assign rfl (E rfl rfl)) ?_
          refine AWL.nil ?_
          refine ⟨k + 1, cs2, by omega, by omega, Sub.cons rfl rfl (Sub.cons rfl rfl (Sub.cons rfl rfl (Sub.cons rfl (by simp) Sub.nil))), rfl⟩
        ·
          try replace h1f := of_decide_eq_false h1f
          refine AW.exit ?_
          refine AW.region ?_
          refine AWL.y rfl rfl (B rfl) (Yv.fieldBox rfl fo_27_0 (E rfl rfl)) ?_
          refine AWL.y rfl rfl (B rfl) (Yv.loadBox rfl ag_25 (i := 0) rfl (E rfl rfl) rfl) ?_
          refine AWL.y rfl rfl (B rfl) (Yv.move rfl (E rfl rfl)) ?_
          refine AWL.y rfl rfl (B rfl) (Yv.buildS rfl sh_24 (evpC (E rfl rfl) evp0) (fun _ => rfl)) ?_
          refine AWL.y rfl rfl (B rfl) (Yv.indexRow rfl ss_25 (i := 2) rfl (E rfl rfl) (E rfl rfl) (fun hg => ⟨rfl, by omega⟩)) ?_
          refine AWL.storeEp (i := 2) (m := 4) rfl rfl rfl ag_24 rfl (E rfl rfl) (E rfl rfl) rfl rfl (by decide) (by rw [List.length_append, List.length_append, hpre, fr_len]; omega) ?_
          refine AWL.nil ?_
          refine AW.dropAt 3 ?_
          refine AW.region ?_
          refine AWL.y rfl rfl (B rfl) (Yv.move rfl (E rfl rfl)) ?_
          refine AWL.y rfl rfl (B rfl) (Yv.addN_i64 rfl (E rfl rfl) (E rfl rfl) (fun hg => by omega)) ?_
          refine AWL.y rfl rfl (B rfl) (Yv.assign rfl (E rfl rfl)) ?_
          refine AWL.nil ?_
          have hsf := store_fr (new := [.v (.int .i64 9), .v (.int .i64 0), .v (.string ⟨#[]⟩), .v (.slice none 0 0)]) (rest := (fs.drop (j + 1)).flatMap frCells) (f := (fs.getD j default)) hpre rfl
          refine ⟨j + 1, pre ++ [.v (.int .i64 9), .v (.int .i64 0), .v (.string ⟨#[]⟩), .v (.slice none 0 0)], ⟨by omega, by rw [List.length_append, hpre]; show _ + 4 = _; omega⟩, by omega, Sub.cons rfl rfl (Sub.cons rfl (by simp) Sub.nil), ?_⟩
          rw [← hsf]
          rfl
    ·
      try replace h0f := of_decide_eq_false h0f
      refine AW.exit ?_
      refine AW.drop (List.take_sublist 2 _) ?_
      refine AW.rseq ?_
      refine AWL.y rfl rfl (B rfl) (Yv.assign rfl (E rfl rfl)) ?_
      refine AWL.nil ?_
      refine AW.block ?_
      refine AW.loop2 (fun (k : Nat) (cs : List T) => [(1, true, .v (vp b1)), (5, true, .v (.int .i64 (k : Int)))]) (fun (k : Nat) (cs : List T) => [.box b1 27 [.v (.slice A fs.length c), .v (.slice Ar nr cr)], .row Ar nr cr 54 2 cs]) (fun (k : Nat) (cs : List T) => k ≤ nr ∧ cs.length = nr * 2) (fun (k : Nat) (cs : List T) => nr - k) 0 rc ?_ ?_ ?_ ?_
      · exact ⟨Nat.zero_le _, hl1⟩
      · exact (Sub.cons rfl rfl (Sub.cons rfl rfl Sub.nil))
      · rfl
      ·
        intro k cs hinv
        obtain ⟨hkl, hcl⟩ := hinv
        refine AW.seq ?_
        refine AW.rseq ?_
        refine AWL.y rfl rfl (B rfl) (Yv.move rfl (E rfl rfl)) ?_
        refine AWL.y rfl rfl (B rfl) (Yv.fieldBox rfl fo_27_1 (E rfl rfl)) ?_
        refine AWL.y rfl rfl (B rfl) (Yv.loadBox rfl ag_22 (i := 0) rfl (E rfl rfl) rfl) ?_
        refine AWL.y rfl rfl (B rfl) (Yv.lenV rfl so_22 (E rfl rfl)) ?_
        refine AWL.y rfl rfl (B rfl) (Yv.lss rfl (E rfl rfl) (E rfl rfl)) ?_
        refine AWL.nil ?_
        refine AW.cond rfl (fun h2t => ?_) (fun h2f => ?_)
        ·
          try replace h2t := of_decide_eq_true h2t
          refine AW.skip ?_
          refine AW.seq ?_
          refine AW.block ?_
          refine AW.region ?_
          refine AWL.y rfl rfl (B rfl) (Yv.fieldBox rfl fo_27_1 (E rfl rfl)) ?_
          refine AWL.y rfl rfl (B rfl) (Yv.loadBox rfl ag_22 (i := 0) rfl (E rfl rfl) rfl) ?_
          refine AWL.y rfl rfl (B rfl) (Yv.move rfl (E rfl rfl)) ?_
          refine AWL.y rfl rfl (B rfl) (Yv.buildS rfl sh_54 (evpC (E rfl rfl) evp0) (fun _ => rfl)) ?_
          refine AWL.y rfl rfl (B rfl) (Yv.indexRow rfl ss_22 (i := 1) rfl (E rfl rfl) (E rfl rfl) (fun hg => ⟨rfl, by omega⟩)) ?_
          refine AWL.storeEp (i := 1) (m := 2) rfl rfl rfl ag_54 rfl (E rfl rfl) (E rfl rfl) rfl rfl (by decide) (by rw [hcl]; omega) ?_
          refine AWL.nil ?_
          refine AW.region ?_
          refine AWL.y rfl rfl (B rfl) (Yv.move rfl (E rfl rfl)) ?_
          refine AWL.y rfl rfl (B rfl) (Yv.addN_i64 rfl (E rfl rfl) (E rfl rfl) (fun hg => by omega)) ?_
          refine AWL.y rfl rfl (B rfl) (Yv.assign rfl (E rfl rfl)) ?_
          refine AWL.nil ?_
          refine ⟨k + 1, _, ⟨by omega, ?_⟩, by omega, Sub.cons rfl rfl (Sub.cons rfl (by simp) Sub.nil), rfl⟩
          rw [List.length_append, List.length_append, List.length_take, List.length_drop, hcl]
          show _ + 2 + _ = _
          omega
        ·
          try replace h2f := of_decide_eq_false h2f
          refine AW.exit ?_
          refine retN .nil ?_
          trivial

end Go.Proofs.Ytbndnmmceccbkaa
