/-
  CONTRACTS of the heap package: numbering; walked by program.
-/
import Derived.Test.YtbndnmmceccbkaaWk2
import Derived.Test.YtbndnmmceccbkaaCanon
namespace Go.Proofs.Ytbndnmmceccbkaa
open Go Go.RowKit
set_option linter.unusedVariables false

set_option maxHeartbeats 400000 in
theorem met42 (l : List RefV) (row : List Int) (b5 bm b6 : Nat) (A : Option Addr) (c : Nat) (hl : l.length ≤ 1099511627) (hr : row.length ≤ 1099511627) :
    ACalls Try.prog 42 [refsT l, .v (vp b5), .v (vp b6)] (CS b5 bm b6 A c row) (fun t_ S => t_ = refsT (metF row l).2 ∧ ∃ A' c', S = CS b5 bm b6 A' c' (metF row l).1) := by
  refine ACalls.intro Try.func42 rfl Try.ntmps42 (Nat.le_of_ble_eq_true rfl) rfl fun X w0 => ?_
  refine AW.rseq ?_
  refine AWL.y rfl rfl (B rfl) (Yv.assign rfl (E rfl rfl)) ?_
  refine AWL.nil ?_
  refine AW.rseq ?_
  refine AWL.y rfl rfl (B rfl) (Yv.assign rfl (E rfl rfl)) ?_
  refine AWL.nil ?_
  refine AW.rowNil 54 2 ?_
  refine AW.seq ?_
  refine AW.rseq ?_
  refine AWL.y rfl rfl (B rfl) (Yv.move rfl (E rfl rfl)) ?_
  refine AWL.y rfl rfl (B rfl) (Yv.lenSl rfl so_22 (B rfl) (E rfl rfl) len_refs) ?_
  refine AWL.y rfl rfl (B rfl) (Yv.move rfl (E rfl rfl)) ?_
  refine AWL.nil ?_
  refine AW.block ?_
  refine AW.loop5 (fun (j : Nat) (A1 : Option Addr) (c1 : Nat) (Ao : Option Addr) (co : Nat) => [(1, true, .v (vp b5)), (2, true, .v (vp b6)), (5, true, .v (.slice Ao j co)), (10, true, refsT l), (11, true, .v (.int .i64 (l.length : Int))), (12, true, .v (.int .i64 (j : Int)))]) (fun (j : Nat) (A1 : Option Addr) (c1 : Nat) (Ao : Option Addr) (co : Nat) => (CS b5 bm b6 A1 c1 (metF row (l.take j)).1 ++ [.row Ao j co 54 2 ((metF row (l.take j)).2.flatMap refCells)])) (fun (j : Nat) (A1 : Option Addr) (c1 : Nat) (Ao : Option Addr) (co : Nat) => j ≤ l.length) (fun (j : Nat) (A1 : Option Addr) (c1 : Nat) (Ao : Option Addr) (co : Nat) => l.length - j) 0 A c none 0 ?_ ?_ ?_ ?_
  · exact Nat.zero_le _
  · exact (Sub.cons rfl rfl (Sub.cons rfl rfl (Sub.cons rfl rfl (Sub.cons rfl rfl (Sub.cons rfl rfl (Sub.cons rfl rfl Sub.nil))))))
  · rfl
  ·
    intro j A1 c1 Ao co hinv
    have hm1 := metF_row (l.take j) row
    have hm2 : (l.take j).length ≤ j := List.length_take_le _ _
    refine AW.rseq ?_
    refine AWL.y rfl rfl (B rfl) (Yv.lss rfl (E rfl rfl) (E rfl rfl)) ?_
    refine AWL.nil ?_
    refine AW.seq ?_
    refine AW.cond rfl (fun h0t => ?_) (fun h0f => ?_)
    ·
      try replace h0t := of_decide_eq_true h0t
      refine AW.skip ?_
      refine AW.seq ?_
      refine AW.block ?_
      refine AW.rseq ?_
      refine AWL.y rfl rfl (B rfl) (Yv.indexSl rfl ss_22 (B rfl) (E rfl rfl) (E rfl rfl) (fun hg => ⟨rfl, (by first | omega | (simp only [len_refs, len_things, len_u8s]; omega))⟩)) ?_
      refine AWL.y rfl rfl (B rfl) (Yv.loadRpA rfl ag_54 (E rfl rfl) (fun hg => ref_get (by omega))) ?_
      refine AWL.allocOp rfl rfl (B rfl) rfl zc_54 (fun b7 => ?_)
      refine AWL.storeBox (i := 5) rfl rfl rfl ag_54 rfl (E rfl rfl) (E rfl rfl) rfl rfl (Nat.le_of_ble_eq_true rfl) ?_
      refine AWL.nil ?_
      refine AW.seq ?_
      refine AW.rseq ?_
      refine AWL.y rfl rfl (B rfl) (Yv.fieldBox rfl fo_54_0 (E rfl rfl)) ?_
      refine AWL.y rfl rfl (B rfl) (Yv.loadBox rfl ag_3 (i := 5) rfl (E rfl rfl) rfl) ?_
      refine AWL.y rfl rfl (B rfl) (Yv.eql rfl (E rfl rfl) (E rfl rfl)) ?_
      refine AWL.nil ?_
      refine AW.cond rfl (fun h1t => ?_) (fun h1f => ?_)
      ·
        try replace h1t := of_decide_eq_true h1t
        refine AW.rseq ?_
        refine AWL.y rfl rfl (B rfl) (Yv.loadBox rfl ag_64 (i := 1) rfl (E rfl rfl) rfl) ?_
        refine AWL.y rfl rfl (B rfl) (Yv.fieldBox rfl fo_54_1 (E rfl rfl)) ?_
        refine AWL.y rfl rfl (B rfl) (Yv.loadBox rfl ag_2 (i := 5) rfl (E rfl rfl) rfl) ?_
        refine AWL.y rfl rfl (B rfl) (Yv.lookup2 (k := .i _ _) (i := 0) rfl mp_64 rfl (E rfl rfl) (E rfl rfl) rfl (mapE_good _ _ _)) ?_
        rw [getK_mapE]
        refine AWL.y rfl rfl (B rfl) (Yv.move rfl (E rfl rfl)) ?_
        refine AWL.y rfl rfl (B rfl) (Yv.extract rfl (E rfl rfl) rfl) ?_
        refine AWL.y rfl rfl (B rfl) (Yv.extract rfl (E rfl rfl) rfl) ?_
        refine AWL.y rfl rfl (B rfl) (Yv.assign rfl (E rfl rfl)) ?_
        refine AWL.y rfl rfl (B rfl) (Yv.assign rfl (E rfl rfl)) ?_
        refine AWL.nil ?_
        refine AW.seq ?_
        refine AW.rseq ?_
        refine AWL.y rfl rfl (B rfl) (Yv.move rfl (E rfl rfl)) ?_
        refine AWL.y rfl rfl (B rfl) (Yv.not rfl (E rfl rfl)) ?_
        refine AWL.nil ?_
        rcases hix : ixOf (metF row (l.take j)).1 (l.getD j default).n with _ | ix
        ·
          refine AW.cond rfl (fun h2t => ?_) (fun h2f => ?_)
          ·
            refine AW.rseq ?_
            refine AWL.y rfl rfl (B rfl) (Yv.loadBox rfl ag_65 (i := 2) rfl (E rfl rfl) rfl) ?_
            refine AWL.y rfl rfl (B rfl) (Yv.lenV rfl so_65 (E rfl rfl)) ?_
            refine AWL.y rfl rfl (B rfl) (Yv.assign rfl (E rfl rfl)) ?_
            refine AWL.nil ?_
            refine AW.rseq ?_
            refine AWL.y rfl rfl (B rfl) (Yv.loadBox rfl ag_64 (i := 1) rfl (E rfl rfl) rfl) ?_
            refine AWL.y rfl rfl (B rfl) (Yv.fieldBox rfl fo_54_1 (E rfl rfl)) ?_
            refine AWL.y rfl rfl (B rfl) (Yv.loadBox rfl ag_2 (i := 5) rfl (E rfl rfl) rfl) ?_
            refine AWL.y rfl rfl (B rfl) (Yv.move rfl (E rfl rfl)) ?_
            refine AWL.mapUpd (k := .i _ _) (i := 0) rfl rfl (.inl rfl) mp_64 rfl (E rfl rfl) (E rfl rfl) (E rfl rfl) rfl rfl (mapE_good _ _ _) ?_
            refine AWL.nil ?_
            refine AW.region ?_
            refine AWL.y rfl rfl (B rfl) (Yv.loadBox rfl ag_65 (i := 2) rfl (E rfl rfl) rfl) ?_
            refine AWL.y rfl rfl (B rfl) (Yv.fieldBox rfl fo_54_1 (E rfl rfl)) ?_
            refine AWL.y rfl rfl (B rfl) (Yv.loadBox rfl ag_2 (i := 5) rfl (E rfl rfl) rfl) ?_
            refine AWL.buildSlice1 rfl rfl (B rfl) rfl el_65 rfl (evsC (E rfl rfl) evs0) (Nat.le_of_ble_eq_true rfl) rfl rfl ?_
            refine AWL.appendRow (i := 3) rfl rfl (B rfl) rfl el_65 (B rfl) rfl (E rfl rfl) (SrcT.sl so_65 (B rfl) (E rfl rfl) rfl) (by unfold maxLen; omega) (by omega) (fun A38 c38 => ?_)
            refine AWL.storeBox (i := 2) rfl rfl rfl ag_65 rfl (E rfl rfl) (E rfl rfl) rfl rfl (Nat.le_of_ble_eq_true rfl) ?_
            refine AWL.nil ?_
            refine AW.region ?_
            refine AWL.y rfl rfl (B rfl) (Yv.move rfl (E rfl rfl)) ?_
            refine AWL.y rfl rfl (B rfl) (Yv.fieldBox rfl fo_54_1 (E rfl rfl)) ?_
            refine AWL.storeBox (i := 5) rfl rfl rfl ag_2 rfl (E rfl rfl) (E rfl rfl) rfl rfl (Nat.le_of_ble_eq_true rfl) ?_
            refine AWL.nil ?_
            refine AW.region ?_
            refine AWL.y rfl rfl (B rfl) (Yv.move rfl (E rfl rfl)) ?_
            refine AWL.y rfl rfl (B rfl) (Yv.loadBoxA rfl ag_54 (i := 5) rfl (E rfl rfl) rfl rfl) ?_
            refine AWL.buildSliceE rfl rfl (B rfl) rfl el_22 (B rfl) rfl (evsC (E rfl rfl) evs0) (Nat.le_of_ble_eq_true rfl) rfl rfl ?_
            refine AWL.appendRow (i := 4) rfl rfl (B rfl) rfl el_22 (B rfl) rfl (E rfl rfl) (SrcT.sl so_22 (B rfl) (E rfl rfl) rfl) (by unfold maxLen; omega) (by omega) (fun A44 c44 => ?_)
            refine AWL.y rfl rfl (B rfl) (Yv.assign rfl (E rfl rfl)) ?_
            refine AWL.nil ?_
            refine AW.dropAt 5 ?_
            refine AW.region ?_
            refine AWL.y rfl rfl (B rfl) (Yv.addN_i64 rfl (E rfl rfl) (E rfl rfl) (fun hg => by omega)) ?_
            refine AWL.y rfl rfl (B rfl) (Yv.move rfl (E rfl rfl)) ?_
            refine AWL.nil ?_
            have e := met_take (l := l) (j := j) (by omega) row
            rw [metR_new h1t hix] at e
            refine ⟨j + 1, A38, c38, A44, c44, by omega, by omega, Sub.cons rfl rfl (Sub.cons rfl rfl (Sub.cons rfl rfl (Sub.cons rfl rfl (Sub.cons rfl rfl (Sub.cons rfl (by simp) Sub.nil))))), ?_⟩
            have e2 : refCells ⟨2, ((metF row (l.take j)).1.length : Int)⟩ = [.v (.int .i64 (l.getD j default).kind), .v (.int .i64 ((metF row (l.take j)).1.length : Int))] := by rw [h1t]; rfl
            have e3 := putK_mapE .i64 (l.getD j default).n (metF row (l.take j)).1 0 hix
            rw [Nat.zero_add] at e3
            simp only [e, out_flat, e2, CS, List.length_append, List.length_cons, List.length_nil, List.map_append]
            rw [← e3]
            rfl
          · exact absurd h2f (by simp)
        ·
          refine AW.cond rfl (fun h2t => ?_) (fun h2f => ?_)
          · exact absurd h2t (by simp)
          ·
            refine AW.skip ?_
            refine AW.region ?_
            refine AWL.y rfl rfl (B rfl) (Yv.move rfl (E rfl rfl)) ?_
            refine AWL.y rfl rfl (B rfl) (Yv.fieldBox rfl fo_54_1 (E rfl rfl)) ?_
            refine AWL.storeBox (i := 5) rfl rfl rfl ag_2 rfl (E rfl rfl) (E rfl rfl) rfl rfl (Nat.le_of_ble_eq_true rfl) ?_
            refine AWL.nil ?_
            refine AW.region ?_
            refine AWL.y rfl rfl (B rfl) (Yv.move rfl (E rfl rfl)) ?_
            refine AWL.y rfl rfl (B rfl) (Yv.loadBoxA rfl ag_54 (i := 5) rfl (E rfl rfl) rfl rfl) ?_
            refine AWL.buildSliceE rfl rfl (B rfl) rfl el_22 (B rfl) rfl (evsC (E rfl rfl) evs0) (Nat.le_of_ble_eq_true rfl) rfl rfl ?_
            refine AWL.appendRow (i := 4) rfl rfl (B rfl) rfl el_22 (B rfl) rfl (E rfl rfl) (SrcT.sl so_22 (B rfl) (E rfl rfl) rfl) (by unfold maxLen; omega) (by omega) (fun A44 c44 => ?_)
            refine AWL.y rfl rfl (B rfl) (Yv.assign rfl (E rfl rfl)) ?_
            refine AWL.nil ?_
            refine AW.dropAt 5 ?_
            refine AW.region ?_
            refine AWL.y rfl rfl (B rfl) (Yv.addN_i64 rfl (E rfl rfl) (E rfl rfl) (fun hg => by omega)) ?_
            refine AWL.y rfl rfl (B rfl) (Yv.move rfl (E rfl rfl)) ?_
            refine AWL.nil ?_
            have e := met_take (l := l) (j := j) (by omega) row
            rw [metR_in h1t hix] at e
            refine ⟨j + 1, A1, c1, A44, c44, by omega, by omega, Sub.cons rfl rfl (Sub.cons rfl rfl (Sub.cons rfl rfl (Sub.cons rfl rfl (Sub.cons rfl rfl (Sub.cons rfl (by simp) Sub.nil))))), ?_⟩
            have e2 : refCells ⟨2, (ix : Int)⟩ = [.v (.int .i64 (l.getD j default).kind), .v (.int .i64 ((0 + ix : Nat) : Int))] := by rw [h1t, Nat.zero_add]; rfl
            rw [e, out_flat, e2]
            rfl
      ·
        try replace h1f := of_decide_eq_false h1f
        refine AW.skip ?_
        refine AW.region ?_
        refine AWL.y rfl rfl (B rfl) (Yv.move rfl (E rfl rfl)) ?_
        refine AWL.y rfl rfl (B rfl) (Yv.loadBoxA rfl ag_54 (i := 5) rfl (E rfl rfl) rfl rfl) ?_
        refine AWL.buildSliceE rfl rfl (B rfl) rfl el_22 (B rfl) rfl (evsC (E rfl rfl) evs0) (Nat.le_of_ble_eq_true rfl) rfl rfl ?_
        refine AWL.appendRow (i := 4) rfl rfl (B rfl) rfl el_22 (B rfl) rfl (E rfl rfl) (SrcT.sl so_22 (B rfl) (E rfl rfl) rfl) (by unfold maxLen; omega) (by omega) (fun A44 c44 => ?_)
        refine AWL.y rfl rfl (B rfl) (Yv.assign rfl (E rfl rfl)) ?_
        refine AWL.nil ?_
        refine AW.dropAt 5 ?_
        refine AW.region ?_
        refine AWL.y rfl rfl (B rfl) (Yv.addN_i64 rfl (E rfl rfl) (E rfl rfl) (fun hg => by omega)) ?_
        refine AWL.y rfl rfl (B rfl) (Yv.move rfl (E rfl rfl)) ?_
        refine AWL.nil ?_
        have e := met_take (l := l) (j := j) (by omega) row
        rw [metR_small h1f] at e
        refine ⟨j + 1, A1, c1, A44, c44, by omega, by omega, Sub.cons rfl rfl (Sub.cons rfl rfl (Sub.cons rfl rfl (Sub.cons rfl rfl (Sub.cons rfl rfl (Sub.cons rfl (by simp) Sub.nil))))), ?_⟩
        rw [e, out_flat]
        rfl
    ·
      try replace h0f := of_decide_eq_false h0f
      refine AW.exit ?_
      refine AW.freeze 4 5 rfl (B rfl) rfl ?_
      refine AW.rseq ?_
      refine AWL.y rfl rfl (B rfl) (Yv.move rfl (E rfl rfl)) ?_
      refine AWL.y rfl rfl (B rfl) (Yv.assign rfl (E rfl rfl)) ?_
      refine AWL.nil ?_
      refine AW.ret (retI (.tmp rfl .nil) ?_)
      have hj : j = l.length := by omega
      subst hj
      rw [List.take_length]
      exact ⟨rfl, _, _, rfl⟩

end Go.Proofs.Ytbndnmmceccbkaa
