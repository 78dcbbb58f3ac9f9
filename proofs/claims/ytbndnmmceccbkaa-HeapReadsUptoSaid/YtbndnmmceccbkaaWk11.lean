/-
  CONTRACTS of the heap package: graphs turned; walked by program.
-/
import Derived.Test.YtbndnmmceccbkaaWk10
import Derived.Test.YtbndnmmceccbkaaTurn
namespace Go.Proofs.Ytbndnmmceccbkaa
open Go Go.RowKit
set_option linter.unusedVariables false

set_option maxHeartbeats 400000 in
theorem moved28 (l : List RefV) (n k : Nat) (hk : k < n) (hn : n ≤ 1099511627) (hl : l.length ≤ 1099511627) (hf : ∀ r ∈ l, fitsF r n = true) :
    ACalls Try.prog 28 [refsT l, .v (.int .i64 (n : Int)), .v (.int .i64 (k : Int))] [] (fun t_ S => t_ = refsT (movF n k l)) := by
  refine ACalls.intro Try.func28 rfl Try.ntmps28 (Nat.le_of_ble_eq_true rfl) rfl fun X w0 => ?_
  refine AW.rseq ?_
  refine AWL.y rfl rfl (B rfl) (Yv.assign rfl (E rfl rfl)) ?_
  refine AWL.nil ?_
  refine AW.rseq ?_
  refine AWL.y rfl rfl (B rfl) (Yv.assign rfl (E rfl rfl)) ?_
  refine AWL.nil ?_
  refine AW.rowNil 54 2 ?_
  refine AW.seq ?_
  refine AW.rseq ?_
  refine AWL.y rfl rfl (B rfl) (Yv.assign rfl (E rfl rfl)) ?_
  refine AWL.nil ?_
  refine AW.block ?_
  refine AW.loop3 (fun (j : Nat) (Ao : Option Addr) (co : Nat) => [(0, true, refsT l), (1, true, .v (.int .i64 (n : Int))), (2, true, .v (.int .i64 (k : Int))), (7, true, .v (.slice Ao j co)), (8, true, .v (.int .i64 (j : Int)))]) (fun (j : Nat) (Ao : Option Addr) (co : Nat) => [.row Ao j co 54 2 ((movF n k (l.take j)).flatMap refCells)]) (fun (j : Nat) (Ao : Option Addr) (co : Nat) => j ≤ l.length) (fun (j : Nat) (Ao : Option Addr) (co : Nat) => l.length - j) 0 none 0 ?_ ?_ ?_ ?_
  · exact Nat.zero_le _
  · exact (Sub.cons rfl rfl (Sub.cons rfl rfl (Sub.cons rfl rfl (Sub.cons rfl rfl (Sub.cons rfl rfl Sub.nil)))))
  · rfl
  ·
    intro j Ao co hinv
    refine AW.seq ?_
    refine AW.rseq ?_
    refine AWL.y rfl rfl (B rfl) (Yv.move rfl (E rfl rfl)) ?_
    refine AWL.y rfl rfl (B rfl) (Yv.move rfl (E rfl rfl)) ?_
    refine AWL.y rfl rfl (B rfl) (Yv.lenSl rfl so_22 (B rfl) (E rfl rfl) len_refs) ?_
    refine AWL.y rfl rfl (B rfl) (Yv.lss rfl (E rfl rfl) (E rfl rfl)) ?_
    refine AWL.nil ?_
    refine AW.cond rfl (fun h0t => ?_) (fun h0f => ?_)
    ·
      try replace h0t := of_decide_eq_true h0t
      refine AW.skip ?_
      refine AW.seq ?_
      refine AW.block ?_
      refine AW.rseq ?_
      refine AWL.y rfl rfl (B rfl) (Yv.move rfl (E rfl rfl)) ?_
      refine AWL.y rfl rfl (B rfl) (Yv.move rfl (E rfl rfl)) ?_
      refine AWL.y rfl rfl (B rfl) (Yv.indexSl rfl ss_22 (B rfl) (E rfl rfl) (E rfl rfl) (fun hg => ⟨rfl, (by first | omega | (simp only [len_refs, len_things, len_u8s]; omega))⟩)) ?_
      refine AWL.y rfl rfl (B rfl) (Yv.loadRpA rfl ag_54 (E rfl rfl) (fun hg => ref_get (by omega))) ?_
      refine AWL.allocOp rfl rfl (B rfl) rfl zc_54 (fun b9 => ?_)
      refine AWL.storeBox (i := 1) rfl rfl rfl ag_54 rfl (E rfl rfl) (E rfl rfl) rfl rfl (Nat.le_of_ble_eq_true rfl) ?_
      refine AWL.nil ?_
      refine AW.seq ?_
      refine AW.rseq ?_
      refine AWL.y rfl rfl (B rfl) (Yv.fieldBox rfl fo_54_0 (E rfl rfl)) ?_
      refine AWL.y rfl rfl (B rfl) (Yv.loadBox rfl ag_3 (i := 1) rfl (E rfl rfl) rfl) ?_
      refine AWL.y rfl rfl (B rfl) (Yv.eql rfl (E rfl rfl) (E rfl rfl)) ?_
      refine AWL.nil ?_
      refine AW.cond rfl (fun h1t => ?_) (fun h1f => ?_)
      ·
        try replace h1t := of_decide_eq_true h1t
        have hft := fits_two (hf (l.getD j default) (getD_mem' (by omega))) h1t
        refine AW.region ?_
        refine AWL.y rfl rfl (B rfl) (Yv.fieldBox rfl fo_54_1 (E rfl rfl)) ?_
        refine AWL.y rfl rfl (B rfl) (Yv.loadBox rfl ag_2 (i := 1) rfl (E rfl rfl) rfl) ?_
        refine AWL.y rfl rfl (B rfl) (Yv.move rfl (E rfl rfl)) ?_
        refine AWL.y rfl rfl (B rfl) (Yv.move rfl (E rfl rfl)) ?_
        refine AWL.y rfl rfl (B rfl) (Yv.subN_i64 rfl (E rfl rfl) (E rfl rfl) (fun hg => by omega)) ?_
        refine AWL.y rfl rfl (B rfl) (Yv.addN_i64 rfl (E rfl rfl) (E rfl rfl) (fun hg => by omega)) ?_
        refine AWL.y rfl rfl (B rfl) (Yv.move rfl (E rfl rfl)) ?_
        refine AWL.y rfl rfl (B rfl) (Yv.remN rfl (E rfl rfl) (E rfl rfl) (fun hg => by omega)) ?_
        refine AWL.y rfl rfl (B rfl) (Yv.fieldBox rfl fo_54_1 (E rfl rfl)) ?_
        refine AWL.storeBox (i := 1) rfl rfl rfl ag_2 rfl (E rfl rfl) (E rfl rfl) rfl rfl (Nat.le_of_ble_eq_true rfl) ?_
        refine AWL.nil ?_
        refine AW.region ?_
        refine AWL.y rfl rfl (B rfl) (Yv.move rfl (E rfl rfl)) ?_
        refine AWL.y rfl rfl (B rfl) (Yv.loadBoxA rfl ag_54 (i := 1) rfl (E rfl rfl) rfl rfl) ?_
        refine AWL.buildSliceE rfl rfl (B rfl) rfl el_22 (B rfl) rfl (evsC (E rfl rfl) evs0) (Nat.le_of_ble_eq_true rfl) rfl rfl ?_
        refine AWL.appendRow (i := 0) rfl rfl (B rfl) rfl el_22 (B rfl) rfl (E rfl rfl) (SrcT.sl so_22 (B rfl) (E rfl rfl) rfl) (by unfold maxLen; omega) (by omega) (fun A35 c35 => ?_)
        refine AWL.y rfl rfl (B rfl) (Yv.assign rfl (E rfl rfl)) ?_
        refine AWL.nil ?_
        refine AW.dropAt 1 ?_
        refine AW.region ?_
        refine AWL.y rfl rfl (B rfl) (Yv.move rfl (E rfl rfl)) ?_
        refine AWL.y rfl rfl (B rfl) (Yv.addN_i64 rfl (E rfl rfl) (E rfl rfl) (fun hg => by omega)) ?_
        refine AWL.y rfl rfl (B rfl) (Yv.assign rfl (E rfl rfl)) ?_
        refine AWL.nil ?_
        refine ⟨j + 1, A35, c35, by omega, by omega, Sub.cons rfl rfl (Sub.cons rfl rfl (Sub.cons rfl rfl (Sub.cons rfl rfl (Sub.cons rfl (by simp) Sub.nil)))), ?_⟩
        have e2 : refCells (movR n k (l.getD j default)) = [.v (.int .i64 (l.getD j default).kind), .v (.int .i64 (((l.getD j default).n + ((n : Int) - k)) % n))] := by rw [movR, if_pos h1t, h1t]; rfl
        rw [movF_step (by omega), out_flat, e2]
        rfl
      ·
        try replace h1f := of_decide_eq_false h1f
        refine AW.skip ?_
        refine AW.region ?_
        refine AWL.y rfl rfl (B rfl) (Yv.move rfl (E rfl rfl)) ?_
        refine AWL.y rfl rfl (B rfl) (Yv.loadBoxA rfl ag_54 (i := 1) rfl (E rfl rfl) rfl rfl) ?_
        refine AWL.buildSliceE rfl rfl (B rfl) rfl el_22 (B rfl) rfl (evsC (E rfl rfl) evs0) (Nat.le_of_ble_eq_true rfl) rfl rfl ?_
        refine AWL.appendRow (i := 0) rfl rfl (B rfl) rfl el_22 (B rfl) rfl (E rfl rfl) (SrcT.sl so_22 (B rfl) (E rfl rfl) rfl) (by unfold maxLen; omega) (by omega) (fun A35 c35 => ?_)
        refine AWL.y rfl rfl (B rfl) (Yv.assign rfl (E rfl rfl)) ?_
        refine AWL.nil ?_
        refine AW.dropAt 1 ?_
        refine AW.region ?_
        refine AWL.y rfl rfl (B rfl) (Yv.move rfl (E rfl rfl)) ?_
        refine AWL.y rfl rfl (B rfl) (Yv.addN_i64 rfl (E rfl rfl) (E rfl rfl) (fun hg => by omega)) ?_
        refine AWL.y rfl rfl (B rfl) (Yv.assign rfl (E rfl rfl)) ?_
        refine AWL.nil ?_
        refine ⟨j + 1, A35, c35, by omega, by omega, Sub.cons rfl rfl (Sub.cons rfl rfl (Sub.cons rfl rfl (Sub.cons rfl rfl (Sub.cons rfl (by simp) Sub.nil)))), ?_⟩
        have e2 : refCells (movR n k (l.getD j default)) = refCells (l.getD j default) := by rw [movR, if_neg h1f]
        rw [movF_step (by omega), out_flat, e2]
        rfl
    ·
      try replace h0f := of_decide_eq_false h0f
      refine AW.exit ?_
      obtain rfl : j = l.length := by omega
      rw [List.take_length]
      refine AW.freeze 0 7 rfl (B rfl) rfl ?_
      refine AW.rseq ?_
      refine AWL.y rfl rfl (B rfl) (Yv.move rfl (E rfl rfl)) ?_
      refine AWL.y rfl rfl (B rfl) (Yv.assign rfl (E rfl rfl)) ?_
      refine AWL.nil ?_
      refine AW.ret (retI (.tmp rfl .nil) ?_)
      rfl

set_option maxHeartbeats 1000000 in
theorem HeapTurned8 (g : Graph) (z : Int) (hg : GraphOk 1048576 g) (hz0 : -9223372036854775808 ≤ z) (hz1 : z ≤ 9223372036854775807) :
    ACalls Try.prog 8 [graphT g, .v (.int .i64 z)] [] (fun t_ S => t_ = .v (.bool true)) := by
  have hgr := graph_up (by decide) hg
  have hb1 := hg.tl
  have hb2 := hg.rl
  refine ACalls.intro Try.func8 rfl Try.ntmps8 (Nat.le_of_ble_eq_true rfl) rfl fun X w0 => ?_
  refine AW.rseq ?_
  refine AWL.boxOp rfl rfl (B rfl) rfl (E rfl rfl) rfl (fun b2 => ?_)
  refine AWL.y rfl rfl (B rfl) (Yv.assign rfl (E rfl rfl)) ?_
  refine AWL.nil ?_
  refine AW.rseq ?_
  refine AWL.y rfl rfl (B rfl) (Yv.fieldBox rfl fo_27_0 (E rfl rfl)) ?_
  refine AWL.y rfl rfl (B rfl) (Yv.loadBox rfl ag_25 (i := 0) rfl (E rfl rfl) rfl) ?_
  refine AWL.y rfl rfl (B rfl) (Yv.lenSl rfl so_25 (B rfl) (E rfl rfl) len_things) ?_
  refine AWL.y rfl rfl (B rfl) (Yv.assign rfl (E rfl rfl)) ?_
  refine AWL.nil ?_
  refine AW.seq ?_
  refine AW.rseq ?_
  refine AWL.y rfl rfl (B rfl) (Yv.loadBoxA rfl ag_27 (i := 0) rfl (E rfl rfl) rfl rfl) ?_
  refine AWL.callP rfl rfl (B rfl) rfl ce_13 (E rfl rfl) (evsC (E rfl rfl) evs0) (Check13 g hgr) (fun t S h => h) ?_
  refine AWL.y rfl rfl (B rfl) (Yv.neq rfl (E rfl rfl) (E rfl rfl)) ?_
  refine AWL.y rfl rfl (B rfl) (Yv.move rfl (E rfl rfl)) ?_
  refine AWL.ygF rfl rfl rfl rfl (B rfl) (Yv.move rfl (E rfl rfl)) ?_
  refine AWL.ygF rfl rfl rfl rfl (B rfl) (Yv.eql rfl (Eg rfl rfl id) (E rfl rfl)) ?_
  refine AWL.y rfl rfl (B rfl) (Yv.pickOr (t := .const (.bool true)) rfl (E rfl rfl) (Eg rfl rfl id)) ?_
  refine AWL.nil ?_
  refine AW.cond rfl (fun h0t => ?_) (fun h0f => ?_)
  ·
    try replace h0t := of_decide_eq_true h0t
    refine AW.rseq ?_
    refine AWL.callT rfl rfl (B rfl) rfl ce_15 (E rfl rfl) evs0 (known15) ?_
    rintro t20 S20 rfl
    refine AWL.y rfl rfl (B rfl) (Yv.assign rfl (E rfl rfl)) ?_
    refine AWL.nil ?_
    refine AW.ret (retI (.tmp rfl .nil) ?_)
    rfl
  ·
    try replace h0f := of_decide_eq_false h0f
    simp only [Bool.or_eq_true, Bool.and_eq_true, Bool.or_eq_false_iff, Bool.and_eq_false_iff, Bool.not_eq_true', Bool.not_eq_false', decide_eq_true_eq, decide_eq_false_iff_not, Decidable.not_not] at h0f
    have hck := check_zero.1 h0f.1
    have hkk := turnK_lt z (show 0 < g.things.length by omega)
    have hto := turn_ok hg (turnK z g.things.length) (by omega)
    obtain ⟨hs1, hs2, hs3⟩ := turn_same hck hkk
    refine AW.skip ?_
    refine AW.rseq ?_
    refine AWL.y rfl rfl (B rfl) (Yv.move rfl (E rfl rfl)) ?_
    refine AWL.y rfl rfl (B rfl) (Yv.assign rfl (E rfl rfl)) ?_
    refine AWL.nil ?_
    refine AW.mid (α := Unit) (fun _ => [(2, true, .v (vp b2)), (5, true, .v (.int .i64 (g.things.length : Int))), (6, true, .v (.int .i64 (turnA z)))]) (fun _ => [.box b2 27 (gCells g)]) (fun _ => True) ?_ ?_
    ·
      refine AW.rseq ?_
      refine AWL.y rfl rfl (B rfl) (Yv.move rfl (E rfl rfl)) ?_
      refine AWL.y rfl rfl (B rfl) (Yv.lss rfl (E rfl rfl) (E rfl rfl)) ?_
      refine AWL.nil ?_
      refine AW.cond rfl (fun h1t => ?_) (fun h1f => ?_)
      ·
        try replace h1t := of_decide_eq_true h1t
        refine AW.region ?_
        refine AWL.y rfl rfl (B rfl) (Yv.move rfl (E rfl rfl)) ?_
        refine AWL.y rfl rfl (B rfl) (Yv.addN_i64 rfl (E rfl rfl) (E rfl rfl) (fun hg => by omega)) ?_
        refine AWL.y rfl rfl (B rfl) (Yv.neg rfl (E rfl rfl)) ?_
        refine AWL.y rfl rfl (B rfl) (Yv.assign rfl (E rfl rfl)) ?_
        refine AWL.nil ?_
        exact ⟨(), trivial, (Sub.cons rfl rfl (Sub.cons rfl rfl (Sub.cons rfl (by rw [turnA, if_pos h1t, IntKind.wrap_i64]; congr 2; omega) Sub.nil))), rfl⟩
      ·
        try replace h1f := of_decide_eq_false h1f
        refine AW.skip ?_
        exact ⟨(), trivial, (Sub.cons rfl rfl (Sub.cons rfl rfl (Sub.cons rfl (by rw [turnA, if_neg h1f]) Sub.nil))), rfl⟩
    ·
      rintro _ hmid
      have hta := turnA_range hz0 hz1
      refine AW.rseq ?_
      refine AWL.y rfl rfl (B rfl) (Yv.move rfl (E rfl rfl)) ?_
      refine AWL.y rfl rfl (B rfl) (Yv.move rfl (E rfl rfl)) ?_
      refine AWL.y rfl rfl (B rfl) (Yv.remN rfl (E rfl rfl) (E rfl rfl) (fun hg => by omega)) ?_
      refine AWL.y rfl rfl (B rfl) (Yv.assign rfl (E rfl rfl)) ?_
      refine AWL.nil ?_
      refine AW.retype (k := 6) (t' := .v (.int .i64 ((turnK z g.things.length) : Int))) rfl (fun w L u h => by rw [turnK_eq (by omega)]; exact h) ?_
      refine AW.rseq ?_
      refine AWL.allocOp rfl rfl (B rfl) rfl zc_27 (fun b7 => ?_)
      refine AWL.nil ?_
      refine AW.seq ?_
      refine AW.rseq ?_
      refine AWL.y rfl rfl (B rfl) (Yv.assign rfl (E rfl rfl)) ?_
      refine AWL.nil ?_
      refine AW.rowNil 24 4 ?_
      refine AW.block ?_
      refine AW.loop3 (fun (j : Nat) (Ao : Option Addr) (co : Nat) => [(2, true, .v (vp b2)), (5, true, .v (.int .i64 (g.things.length : Int))), (6, true, .v (.int .i64 ((turnK z g.things.length) : Int))), (7, true, .v (vp b7)), (8, true, .v (.int .i64 (j : Int)))]) (fun (j : Nat) (Ao : Option Addr) (co : Nat) => [.box b2 27 (gCells g), .box b7 27 [.v (.slice Ao j co), .v (.slice none 0 0)], .row Ao j co 24 4 ((turnL g (turnK z g.things.length) j).flatMap thingCells)]) (fun (j : Nat) (Ao : Option Addr) (co : Nat) => j ≤ g.things.length) (fun (j : Nat) (Ao : Option Addr) (co : Nat) => g.things.length - j) 0 none 0 ?_ ?_ ?_ ?_
      · exact Nat.zero_le _
      · exact (Sub.cons rfl rfl (Sub.cons rfl rfl (Sub.cons rfl rfl (Sub.cons rfl rfl (Sub.cons rfl rfl Sub.nil)))))
      · rfl
      ·
        intro j Ao co hinv
        refine AW.seq ?_
        refine AW.rseq ?_
        refine AWL.y rfl rfl (B rfl) (Yv.move rfl (E rfl rfl)) ?_
        refine AWL.y rfl rfl (B rfl) (Yv.move rfl (E rfl rfl)) ?_
        refine AWL.y rfl rfl (B rfl) (Yv.lss rfl (E rfl rfl) (E rfl rfl)) ?_
        refine AWL.nil ?_
        refine AW.cond rfl (fun h2t => ?_) (fun h2f => ?_)
        ·
          try replace h2t := of_decide_eq_true h2t
          have hti := hgr.ts (g.things.getD ((j + (turnK z g.things.length)) % g.things.length) default) (getD_mem' (Nat.mod_lt _ (by omega)))
          have hgd := check_thing hck (g.things.getD ((j + (turnK z g.things.length)) % g.things.length) default) (getD_mem' (Nat.mod_lt _ (by omega)))
          refine AW.skip ?_
          refine AW.seq ?_
          refine AW.block ?_
          refine AW.mid (α := Nat) (fun b9 => [(2, true, .v (vp b2)), (5, true, .v (.int .i64 (g.things.length : Int))), (6, true, .v (.int .i64 ((turnK z g.things.length) : Int))), (7, true, .v (vp b7)), (8, true, .v (.int .i64 (j : Int))), (9, true, .v (vp b9))]) (fun b9 => [.box b2 27 (gCells g), .box b7 27 [.v (.slice Ao j co), .v (.slice none 0 0)], .row Ao j co 24 4 ((turnL g (turnK z g.things.length) j).flatMap thingCells)] ++ [.box b9 24 (thingCells (g.things.getD ((j + (turnK z g.things.length)) % g.things.length) default))]) (fun _ => True) ?_ ?_
          ·
            refine AW.regionP rfl ?_
            refine AWP.take (i := 0) rfl (by kernel_rfl) (by kernel_rfl) (by kernel_rfl) rfl rfl (B rfl) (freeField rfl fo_27_0 (E rfl rfl)) ?_
            refine AWP.take (i := 2) rfl (by kernel_rfl) (by kernel_rfl) (by kernel_rfl) rfl rfl (B rfl) (freeMove rfl (E rfl rfl)) ?_
            refine AWP.take (i := 3) rfl (by kernel_rfl) (by kernel_rfl) (by kernel_rfl) rfl rfl (B rfl) (freeMove rfl (E rfl rfl)) ?_
            refine AWP.take (i := 5) rfl (by kernel_rfl) (by kernel_rfl) (by kernel_rfl) rfl rfl (B rfl) (freeMove rfl (E rfl rfl)) ?_
            refine AWP.three (i := 1) (j := 4) (k := 9) (by kernel_rfl) rfl rfl rfl ?_ ?_ ?_
            ·
              refine AWL.y rfl rfl (B rfl) (Yv.loadBox rfl ag_25 (i := 0) rfl (E rfl rfl) rfl) ?_
              refine AWL.nil ?_
              refine AWP.two (i := 4) (j := 9) (by kernel_rfl) rfl rfl ?_ ?_
              ·
                refine AWL.y rfl rfl (B rfl) (Yv.addN_i64 rfl (E rfl rfl) (E rfl rfl) (fun hg => by omega)) ?_
                refine AWL.nil ?_
                refine AWP.two (i := 6) (j := 9) (by kernel_rfl) rfl rfl ?_ ?_
                ·
                  refine AWL.y rfl rfl (B rfl) (Yv.remN rfl (E rfl rfl) (E rfl rfl) (fun hg => by omega)) ?_
                  refine AWL.nil ?_
                  refine AWP.two (i := 7) (j := 9) (by kernel_rfl) rfl rfl ?_ ?_
                  ·
                    refine AWL.y rfl rfl (B rfl) (Yv.indexSl (j := ((j + (turnK z g.things.length)) % g.things.length)) rfl ss_25 (B rfl) (E rfl rfl) (E rfl rfl) (fun hg => ⟨rfl, by have := Nat.mod_lt (j + (turnK z g.things.length)) (show 0 < g.things.length by omega); simp only [len_things]; omega⟩)) ?_
                    refine AWL.nil ?_
                    refine AWP.two (i := 8) (j := 9) (by kernel_rfl) rfl rfl ?_ ?_
                    ·
                      refine AWL.y rfl rfl (B rfl) (Yv.loadRpA rfl ag_24 (E rfl rfl) (fun hg => thing_get (Nat.mod_lt _ (by omega)))) ?_
                      refine AWL.nil ?_
                      refine AWP.one (i := 9) (by kernel_rfl) rfl ?_
                      refine AWL.allocOp rfl rfl (B rfl) rfl zc_24 (fun b9 => ?_)
                      refine AWL.nil ?_
                      refine AWP.one (i := 10) (by kernel_rfl) rfl ?_
                      refine AWL.storeBox (i := 3) rfl rfl rfl ag_24 rfl (E rfl rfl) (E rfl rfl) rfl rfl (Nat.le_of_ble_eq_true rfl) ?_
                      refine AWL.nil ?_
                      refine AWP.done (by kernel_rfl) ?_
                      exact ⟨b9, trivial, Sub.cons rfl rfl (Sub.cons rfl rfl (Sub.cons rfl rfl (Sub.cons rfl rfl (Sub.cons rfl rfl (Sub.cons rfl rfl Sub.nil))))), rfl⟩
                    ·
                      refine AWL.allocOp rfl rfl (B rfl) rfl zc_24 (fun b9 => ?_)
                      refine AWL.nil ?_
                      refine AWP.one (i := 8) (by kernel_rfl) rfl ?_
                      refine AWL.y rfl rfl (B rfl) (Yv.loadRpA rfl ag_24 (E rfl rfl) (fun hg => thing_get (Nat.mod_lt _ (by omega)))) ?_
                      refine AWL.nil ?_
                      refine AWP.one (i := 10) (by kernel_rfl) rfl ?_
                      refine AWL.storeBox (i := 3) rfl rfl rfl ag_24 rfl (E rfl rfl) (E rfl rfl) rfl rfl (Nat.le_of_ble_eq_true rfl) ?_
                      refine AWL.nil ?_
                      refine AWP.done (by kernel_rfl) ?_
                      exact ⟨b9, trivial, Sub.cons rfl rfl (Sub.cons rfl rfl (Sub.cons rfl rfl (Sub.cons rfl rfl (Sub.cons rfl rfl (Sub.cons rfl rfl Sub.nil))))), rfl⟩
                  ·
                    refine AWL.allocOp rfl rfl (B rfl) rfl zc_24 (fun b9 => ?_)
                    refine AWL.nil ?_
                    refine AWP.one (i := 7) (by kernel_rfl) rfl ?_
                    refine AWL.y rfl rfl (B rfl) (Yv.indexSl (j := ((j + (turnK z g.things.length)) % g.things.length)) rfl ss_25 (B rfl) (E rfl rfl) (E rfl rfl) (fun hg => ⟨rfl, by have := Nat.mod_lt (j + (turnK z g.things.length)) (show 0 < g.things.length by omega); simp only [len_things]; omega⟩)) ?_
                    refine AWL.nil ?_
                    refine AWP.one (i := 8) (by kernel_rfl) rfl ?_
                    refine AWL.y rfl rfl (B rfl) (Yv.loadRpA rfl ag_24 (E rfl rfl) (fun hg => thing_get (Nat.mod_lt _ (by omega)))) ?_
                    refine AWL.nil ?_
                    refine AWP.one (i := 10) (by kernel_rfl) rfl ?_
                    refine AWL.storeBox (i := 3) rfl rfl rfl ag_24 rfl (E rfl rfl) (E rfl rfl) rfl rfl (Nat.le_of_ble_eq_true rfl) ?_
                    refine AWL.nil ?_
                    refine AWP.done (by kernel_rfl) ?_
                    exact ⟨b9, trivial, Sub.cons rfl rfl (Sub.cons rfl rfl (Sub.cons rfl rfl (Sub.cons rfl rfl (Sub.cons rfl rfl (Sub.cons rfl rfl Sub.nil))))), rfl⟩
                ·
                  refine AWL.allocOp rfl rfl (B rfl) rfl zc_24 (fun b9 => ?_)
                  refine AWL.nil ?_
                  refine AWP.one (i := 6) (by kernel_rfl) rfl ?_
                  refine AWL.y rfl rfl (B rfl) (Yv.remN rfl (E rfl rfl) (E rfl rfl) (fun hg => by omega)) ?_
                  refine AWL.nil ?_
                  refine AWP.one (i := 7) (by kernel_rfl) rfl ?_
                  refine AWL.y rfl rfl (B rfl) (Yv.indexSl (j := ((j + (turnK z g.things.length)) % g.things.length)) rfl ss_25 (B rfl) (E rfl rfl) (E rfl rfl) (fun hg => ⟨rfl, by have := Nat.mod_lt (j + (turnK z g.things.length)) (show 0 < g.things.length by omega); simp only [len_things]; omega⟩)) ?_
                  refine AWL.nil ?_
                  refine AWP.one (i := 8) (by kernel_rfl) rfl ?_
                  refine AWL.y rfl rfl (B rfl) (Yv.loadRpA rfl ag_24 (E rfl rfl) (fun hg => thing_get (Nat.mod_lt _ (by omega)))) ?_
                  refine AWL.nil ?_
                  refine AWP.one (i := 10) (by kernel_rfl) rfl ?_
                  refine AWL.storeBox (i := 3) rfl rfl rfl ag_24 rfl (E rfl rfl) (E rfl rfl) rfl rfl (Nat.le_of_ble_eq_true rfl) ?_
                  refine AWL.nil ?_
                  refine AWP.done (by kernel_rfl) ?_
                  exact ⟨b9, trivial, Sub.cons rfl rfl (Sub.cons rfl rfl (Sub.cons rfl rfl (Sub.cons rfl rfl (Sub.cons rfl rfl (Sub.cons rfl rfl Sub.nil))))), rfl⟩
              ·
                refine AWL.allocOp rfl rfl (B rfl) rfl zc_24 (fun b9 => ?_)
                refine AWL.nil ?_
                refine AWP.one (i := 4) (by kernel_rfl) rfl ?_
                refine AWL.y rfl rfl (B rfl) (Yv.addN_i64 rfl (E rfl rfl) (E rfl rfl) (fun hg => by omega)) ?_
                refine AWL.nil ?_
                refine AWP.one (i := 6) (by kernel_rfl) rfl ?_
                refine AWL.y rfl rfl (B rfl) (Yv.remN rfl (E rfl rfl) (E rfl rfl) (fun hg => by omega)) ?_
                refine AWL.nil ?_
                refine AWP.one (i := 7) (by kernel_rfl) rfl ?_
                refine AWL.y rfl rfl (B rfl) (Yv.indexSl (j := ((j + (turnK z g.things.length)) % g.things.length)) rfl ss_25 (B rfl) (E rfl rfl) (E rfl rfl) (fun hg => ⟨rfl, by have := Nat.mod_lt (j + (turnK z g.things.length)) (show 0 < g.things.length by omega); simp only [len_things]; omega⟩)) ?_
                refine AWL.nil ?_
                refine AWP.one (i := 8) (by kernel_rfl) rfl ?_
                refine AWL.y rfl rfl (B rfl) (Yv.loadRpA rfl ag_24 (E rfl rfl) (fun hg => thing_get (Nat.mod_lt _ (by omega)))) ?_
                refine AWL.nil ?_
                refine AWP.one (i := 10) (by kernel_rfl) rfl ?_
                refine AWL.storeBox (i := 3) rfl rfl rfl ag_24 rfl (E rfl rfl) (E rfl rfl) rfl rfl (Nat.le_of_ble_eq_true rfl) ?_
                refine AWL.nil ?_
                refine AWP.done (by kernel_rfl) ?_
                exact ⟨b9, trivial, Sub.cons rfl rfl (Sub.cons rfl rfl (Sub.cons rfl rfl (Sub.cons rfl rfl (Sub.cons rfl rfl (Sub.cons rfl rfl Sub.nil))))), rfl⟩
            ·
              refine AWL.y rfl rfl (B rfl) (Yv.addN_i64 rfl (E rfl rfl) (E rfl rfl) (fun hg => by omega)) ?_
              refine AWL.nil ?_
              refine AWP.three (i := 1) (j := 6) (k := 9) (by kernel_rfl) rfl rfl rfl ?_ ?_ ?_
              ·
                refine AWL.y rfl rfl (B rfl) (Yv.loadBox rfl ag_25 (i := 0) rfl (E rfl rfl) rfl) ?_
                refine AWL.nil ?_
                refine AWP.two (i := 6) (j := 9) (by kernel_rfl) rfl rfl ?_ ?_
                ·
                  refine AWL.y rfl rfl (B rfl) (Yv.remN rfl (E rfl rfl) (E rfl rfl) (fun hg => by omega)) ?_
                  refine AWL.nil ?_
                  refine AWP.two (i := 7) (j := 9) (by kernel_rfl) rfl rfl ?_ ?_
                  ·
                    refine AWL.y rfl rfl (B rfl) (Yv.indexSl (j := ((j + (turnK z g.things.length)) % g.things.length)) rfl ss_25 (B rfl) (E rfl rfl) (E rfl rfl) (fun hg => ⟨rfl, by have := Nat.mod_lt (j + (turnK z g.things.length)) (show 0 < g.things.length by omega); simp only [len_things]; omega⟩)) ?_
                    refine AWL.nil ?_
                    refine AWP.two (i := 8) (j := 9) (by kernel_rfl) rfl rfl ?_ ?_
                    ·
                      refine AWL.y rfl rfl (B rfl) (Yv.loadRpA rfl ag_24 (E rfl rfl) (fun hg => thing_get (Nat.mod_lt _ (by omega)))) ?_
                      refine AWL.nil ?_
                      refine AWP.one (i := 9) (by kernel_rfl) rfl ?_
                      refine AWL.allocOp rfl rfl (B rfl) rfl zc_24 (fun b9 => ?_)
                      refine AWL.nil ?_
                      refine AWP.one (i := 10) (by kernel_rfl) rfl ?_
                      refine AWL.storeBox (i := 3) rfl rfl rfl ag_24 rfl (E rfl rfl) (E rfl rfl) rfl rfl (Nat.le_of_ble_eq_true rfl) ?_
                      refine AWL.nil ?_
                      refine AWP.done (by kernel_rfl) ?_
                      exact ⟨b9, trivial, Sub.cons rfl rfl (Sub.cons rfl rfl (Sub.cons rfl rfl (Sub.cons rfl rfl (Sub.cons rfl rfl (Sub.cons rfl rfl Sub.nil))))), rfl⟩
                    ·
                      refine AWL.allocOp rfl rfl (B rfl) rfl zc_24 (fun b9 => ?_)
                      refine AWL.nil ?_
                      refine AWP.one (i := 8) (by kernel_rfl) rfl ?_
                      refine AWL.y rfl rfl (B rfl) (Yv.loadRpA rfl ag_24 (E rfl rfl) (fun hg => thing_get (Nat.mod_lt _ (by omega)))) ?_
                      refine AWL.nil ?_
                      refine AWP.one (i := 10) (by kernel_rfl) rfl ?_
                      refine AWL.storeBox (i := 3) rfl rfl rfl ag_24 rfl (E rfl rfl) (E rfl rfl) rfl rfl (Nat.le_of_ble_eq_true rfl) ?_
                      refine AWL.nil ?_
                      refine AWP.done (by kernel_rfl) ?_
                      exact ⟨b9, trivial, Sub.cons rfl rfl (Sub.cons rfl rfl (Sub.cons rfl rfl (Sub.cons rfl rfl (Sub.cons rfl rfl (Sub.cons rfl rfl Sub.nil))))), rfl⟩
                  ·
                    refine AWL.allocOp rfl rfl (B rfl) rfl zc_24 (fun b9 => ?_)
                    refine AWL.nil ?_
                    refine AWP.one (i := 7) (by kernel_rfl) rfl ?_
                    refine AWL.y rfl rfl (B rfl) (Yv.indexSl (j := ((j + (turnK z g.things.length)) % g.things.length)) rfl ss_25 (B rfl) (E rfl rfl) (E rfl rfl) (fun hg => ⟨rfl, by have := Nat.mod_lt (j + (turnK z g.things.length)) (show 0 < g.things.length by omega); simp only [len_things]; omega⟩)) ?_
                    refine AWL.nil ?_
                    refine AWP.one (i := 8) (by kernel_rfl) rfl ?_
                    refine AWL.y rfl rfl (B rfl) (Yv.loadRpA rfl ag_24 (E rfl rfl) (fun hg => thing_get (Nat.mod_lt _ (by omega)))) ?_
                    refine AWL.nil ?_
                    refine AWP.one (i := 10) (by kernel_rfl) rfl ?_
                    refine AWL.storeBox (i := 3) rfl rfl rfl ag_24 rfl (E rfl rfl) (E rfl rfl) rfl rfl (Nat.le_of_ble_eq_true rfl) ?_
                    refine AWL.nil ?_
                    refine AWP.done (by kernel_rfl) ?_
                    exact ⟨b9, trivial, Sub.cons rfl rfl (Sub.cons rfl rfl (Sub.cons rfl rfl (Sub.cons rfl rfl (Sub.cons rfl rfl (Sub.cons rfl rfl Sub.nil))))), rfl⟩
                ·
                  refine AWL.allocOp rfl rfl (B rfl) rfl zc_24 (fun b9 => ?_)
                  refine AWL.nil ?_
                  refine AWP.one (i := 6) (by kernel_rfl) rfl ?_
                  refine AWL.y rfl rfl (B rfl) (Yv.remN rfl (E rfl rfl) (E rfl rfl) (fun hg => by omega)) ?_
                  refine AWL.nil ?_
                  refine AWP.one (i := 7) (by kernel_rfl) rfl ?_
                  refine AWL.y rfl rfl (B rfl) (Yv.indexSl (j := ((j + (turnK z g.things.length)) % g.things.length)) rfl ss_25 (B rfl) (E rfl rfl) (E rfl rfl) (fun hg => ⟨rfl, by have := Nat.mod_lt (j + (turnK z g.things.length)) (show 0 < g.things.length by omega); simp only [len_things]; omega⟩)) ?_
                  refine AWL.nil ?_
                  refine AWP.one (i := 8) (by kernel_rfl) rfl ?_
                  refine AWL.y rfl rfl (B rfl) (Yv.loadRpA rfl ag_24 (E rfl rfl) (fun hg => thing_get (Nat.mod_lt _ (by omega)))) ?_
                  refine AWL.nil ?_
                  refine AWP.one (i := 10) (by kernel_rfl) rfl ?_
                  refine AWL.storeBox (i := 3) rfl rfl rfl ag_24 rfl (E rfl rfl) (E rfl rfl) rfl rfl (Nat.le_of_ble_eq_true rfl) ?_
                  refine AWL.nil ?_
                  refine AWP.done (by kernel_rfl) ?_
                  exact ⟨b9, trivial, Sub.cons rfl rfl (Sub.cons rfl rfl (Sub.cons rfl rfl (Sub.cons rfl rfl (Sub.cons rfl rfl (Sub.cons rfl rfl Sub.nil))))), rfl⟩
              ·
                refine AWL.y rfl rfl (B rfl) (Yv.remN rfl (E rfl rfl) (E rfl rfl) (fun hg => by omega)) ?_
                refine AWL.nil ?_
                refine AWP.two (i := 1) (j := 9) (by kernel_rfl) rfl rfl ?_ ?_
                ·
                  refine AWL.y rfl rfl (B rfl) (Yv.loadBox rfl ag_25 (i := 0) rfl (E rfl rfl) rfl) ?_
                  refine AWL.nil ?_
                  refine AWP.two (i := 7) (j := 9) (by kernel_rfl) rfl rfl ?_ ?_
                  ·
                    refine AWL.y rfl rfl (B rfl) (Yv.indexSl (j := ((j + (turnK z g.things.length)) % g.things.length)) rfl ss_25 (B rfl) (E rfl rfl) (E rfl rfl) (fun hg => ⟨rfl, by have := Nat.mod_lt (j + (turnK z g.things.length)) (show 0 < g.things.length by omega); simp only [len_things]; omega⟩)) ?_
                    refine AWL.nil ?_
                    refine AWP.two (i := 8) (j := 9) (by kernel_rfl) rfl rfl ?_ ?_
                    ·
                      refine AWL.y rfl rfl (B rfl) (Yv.loadRpA rfl ag_24 (E rfl rfl) (fun hg => thing_get (Nat.mod_lt _ (by omega)))) ?_
                      refine AWL.nil ?_
                      refine AWP.one (i := 9) (by kernel_rfl) rfl ?_
                      refine AWL.allocOp rfl rfl (B rfl) rfl zc_24 (fun b9 => ?_)
                      refine AWL.nil ?_
                      refine AWP.one (i := 10) (by kernel_rfl) rfl ?_
                      refine AWL.storeBox (i := 3) rfl rfl rfl ag_24 rfl (E rfl rfl) (E rfl rfl) rfl rfl (Nat.le_of_ble_eq_true rfl) ?_
                      refine AWL.nil ?_
                      refine AWP.done (by kernel_rfl) ?_
                      exact ⟨b9, trivial, Sub.cons rfl rfl (Sub.cons rfl rfl (Sub.cons rfl rfl (Sub.cons rfl rfl (Sub.cons rfl rfl (Sub.cons rfl rfl Sub.nil))))), rfl⟩
                    ·
                      refine AWL.allocOp rfl rfl (B rfl) rfl zc_24 (fun b9 => ?_)
                      refine AWL.nil ?_
                      refine AWP.one (i := 8) (by kernel_rfl) rfl ?_
                      refine AWL.y rfl rfl (B rfl) (Yv.loadRpA rfl ag_24 (E rfl rfl) (fun hg => thing_get (Nat.mod_lt _ (by omega)))) ?_
                      refine AWL.nil ?_
                      refine AWP.one (i := 10) (by kernel_rfl) rfl ?_
                      refine AWL.storeBox (i := 3) rfl rfl rfl ag_24 rfl (E rfl rfl) (E rfl rfl) rfl rfl (Nat.le_of_ble_eq_true rfl) ?_
                      refine AWL.nil ?_
                      refine AWP.done (by kernel_rfl) ?_
                      exact ⟨b9, trivial, Sub.cons rfl rfl (Sub.cons rfl rfl (Sub.cons rfl rfl (Sub.cons rfl rfl (Sub.cons rfl rfl (Sub.cons rfl rfl Sub.nil))))), rfl⟩
                  ·
                    refine AWL.allocOp rfl rfl (B rfl) rfl zc_24 (fun b9 => ?_)
                    refine AWL.nil ?_
                    refine AWP.one (i := 7) (by kernel_rfl) rfl ?_
                    refine AWL.y rfl rfl (B rfl) (Yv.indexSl (j := ((j + (turnK z g.things.length)) % g.things.length)) rfl ss_25 (B rfl) (E rfl rfl) (E rfl rfl) (fun hg => ⟨rfl, by have := Nat.mod_lt (j + (turnK z g.things.length)) (show 0 < g.things.length by omega); simp only [len_things]; omega⟩)) ?_
                    refine AWL.nil ?_
                    refine AWP.one (i := 8) (by kernel_rfl) rfl ?_
                    refine AWL.y rfl rfl (B rfl) (Yv.loadRpA rfl ag_24 (E rfl rfl) (fun hg => thing_get (Nat.mod_lt _ (by omega)))) ?_
                    refine AWL.nil ?_
                    refine AWP.one (i := 10) (by kernel_rfl) rfl ?_
                    refine AWL.storeBox (i := 3) rfl rfl rfl ag_24 rfl (E rfl rfl) (E rfl rfl) rfl rfl (Nat.le_of_ble_eq_true rfl) ?_
                    refine AWL.nil ?_
                    refine AWP.done (by kernel_rfl) ?_
                    exact ⟨b9, trivial, Sub.cons rfl rfl (Sub.cons rfl rfl (Sub.cons rfl rfl (Sub.cons rfl rfl (Sub.cons rfl rfl (Sub.cons rfl rfl Sub.nil))))), rfl⟩
                ·
                  refine AWL.allocOp rfl rfl (B rfl) rfl zc_24 (fun b9 => ?_)
                  refine AWL.nil ?_
                  refine AWP.one (i := 1) (by kernel_rfl) rfl ?_
                  refine AWL.y rfl rfl (B rfl) (Yv.loadBox rfl ag_25 (i := 0) rfl (E rfl rfl) rfl) ?_
                  refine AWL.nil ?_
                  refine AWP.one (i := 7) (by kernel_rfl) rfl ?_
                  refine AWL.y rfl rfl (B rfl) (Yv.indexSl (j := ((j + (turnK z g.things.length)) % g.things.length)) rfl ss_25 (B rfl) (E rfl rfl) (E rfl rfl) (fun hg => ⟨rfl, by have := Nat.mod_lt (j + (turnK z g.things.length)) (show 0 < g.things.length by omega); simp only [len_things]; omega⟩)) ?_
                  refine AWL.nil ?_
                  refine AWP.one (i := 8) (by kernel_rfl) rfl ?_
                  refine AWL.y rfl rfl (B rfl) (Yv.loadRpA rfl ag_24 (E rfl rfl) (fun hg => thing_get (Nat.mod_lt _ (by omega)))) ?_
                  refine AWL.nil ?_
                  refine AWP.one (i := 10) (by kernel_rfl) rfl ?_
                  refine AWL.storeBox (i := 3) rfl rfl rfl ag_24 rfl (E rfl rfl) (E rfl rfl) rfl rfl (Nat.le_of_ble_eq_true rfl) ?_
                  refine AWL.nil ?_
                  refine AWP.done (by kernel_rfl) ?_
                  exact ⟨b9, trivial, Sub.cons rfl rfl (Sub.cons rfl rfl (Sub.cons rfl rfl (Sub.cons rfl rfl (Sub.cons rfl rfl (Sub.cons rfl rfl Sub.nil))))), rfl⟩
              ·
                refine AWL.allocOp rfl rfl (B rfl) rfl zc_24 (fun b9 => ?_)
                refine AWL.nil ?_
                refine AWP.two (i := 1) (j := 6) (by kernel_rfl) rfl rfl ?_ ?_
                ·
                  refine AWL.y rfl rfl (B rfl) (Yv.loadBox rfl ag_25 (i := 0) rfl (E rfl rfl) rfl) ?_
                  refine AWL.nil ?_
                  refine AWP.one (i := 6) (by kernel_rfl) rfl ?_
                  refine AWL.y rfl rfl (B rfl) (Yv.remN rfl (E rfl rfl) (E rfl rfl) (fun hg => by omega)) ?_
                  refine AWL.nil ?_
                  refine AWP.one (i := 7) (by kernel_rfl) rfl ?_
                  refine AWL.y rfl rfl (B rfl) (Yv.indexSl (j := ((j + (turnK z g.things.length)) % g.things.length)) rfl ss_25 (B rfl) (E rfl rfl) (E rfl rfl) (fun hg => ⟨rfl, by have := Nat.mod_lt (j + (turnK z g.things.length)) (show 0 < g.things.length by omega); simp only [len_things]; omega⟩)) ?_
                  refine AWL.nil ?_
                  refine AWP.one (i := 8) (by kernel_rfl) rfl ?_
                  refine AWL.y rfl rfl (B rfl) (Yv.loadRpA rfl ag_24 (E rfl rfl) (fun hg => thing_get (Nat.mod_lt _ (by omega)))) ?_
                  refine AWL.nil ?_
                  refine AWP.one (i := 10) (by kernel_rfl) rfl ?_
                  refine AWL.storeBox (i := 3) rfl rfl rfl ag_24 rfl (E rfl rfl) (E rfl rfl) rfl rfl (Nat.le_of_ble_eq_true rfl) ?_
                  refine AWL.nil ?_
                  refine AWP.done (by kernel_rfl) ?_
                  exact ⟨b9, trivial, Sub.cons rfl rfl (Sub.cons rfl rfl (Sub.cons rfl rfl (Sub.cons rfl rfl (Sub.cons rfl rfl (Sub.cons rfl rfl Sub.nil))))), rfl⟩
                ·
                  refine AWL.y rfl rfl (B rfl) (Yv.remN rfl (E rfl rfl) (E rfl rfl) (fun hg => by omega)) ?_
                  refine AWL.nil ?_
                  refine AWP.one (i := 1) (by kernel_rfl) rfl ?_
                  refine AWL.y rfl rfl (B rfl) (Yv.loadBox rfl ag_25 (i := 0) rfl (E rfl rfl) rfl) ?_
                  refine AWL.nil ?_
                  refine AWP.one (i := 7) (by kernel_rfl) rfl ?_
                  refine AWL.y rfl rfl (B rfl) (Yv.indexSl (j := ((j + (turnK z g.things.length)) % g.things.length)) rfl ss_25 (B rfl) (E rfl rfl) (E rfl rfl) (fun hg => ⟨rfl, by have := Nat.mod_lt (j + (turnK z g.things.length)) (show 0 < g.things.length by omega); simp only [len_things]; omega⟩)) ?_
                  refine AWL.nil ?_
                  refine AWP.one (i := 8) (by kernel_rfl) rfl ?_
                  refine AWL.y rfl rfl (B rfl) (Yv.loadRpA rfl ag_24 (E rfl rfl) (fun hg => thing_get (Nat.mod_lt _ (by omega)))) ?_
                  refine AWL.nil ?_
                  refine AWP.one (i := 10) (by kernel_rfl) rfl ?_
                  refine AWL.storeBox (i := 3) rfl rfl rfl ag_24 rfl (E rfl rfl) (E rfl rfl) rfl rfl (Nat.le_of_ble_eq_true rfl) ?_
                  refine AWL.nil ?_
                  refine AWP.done (by kernel_rfl) ?_
                  exact ⟨b9, trivial, Sub.cons rfl rfl (Sub.cons rfl rfl (Sub.cons rfl rfl (Sub.cons rfl rfl (Sub.cons rfl rfl (Sub.cons rfl rfl Sub.nil))))), rfl⟩
            ·
              refine AWL.allocOp rfl rfl (B rfl) rfl zc_24 (fun b9 => ?_)
              refine AWL.nil ?_
              refine AWP.two (i := 1) (j := 4) (by kernel_rfl) rfl rfl ?_ ?_
              ·
                refine AWL.y rfl rfl (B rfl) (Yv.loadBox rfl ag_25 (i := 0) rfl (E rfl rfl) rfl) ?_
                refine AWL.nil ?_
                refine AWP.one (i := 4) (by kernel_rfl) rfl ?_
                refine AWL.y rfl rfl (B rfl) (Yv.addN_i64 rfl (E rfl rfl) (E rfl rfl) (fun hg => by omega)) ?_
                refine AWL.nil ?_
                refine AWP.one (i := 6) (by kernel_rfl) rfl ?_
                refine AWL.y rfl rfl (B rfl) (Yv.remN rfl (E rfl rfl) (E rfl rfl) (fun hg => by omega)) ?_
                refine AWL.nil ?_
                refine AWP.one (i := 7) (by kernel_rfl) rfl ?_
                refine AWL.y rfl rfl (B rfl) (Yv.indexSl (j := ((j + (turnK z g.things.length)) % g.things.length)) rfl ss_25 (B rfl) (E rfl rfl) (E rfl rfl) (fun hg => ⟨rfl, by have := Nat.mod_lt (j + (turnK z g.things.length)) (show 0 < g.things.length by omega); simp only [len_things]; omega⟩)) ?_
                refine AWL.nil ?_
                refine AWP.one (i := 8) (by kernel_rfl) rfl ?_
                refine AWL.y rfl rfl (B rfl) (Yv.loadRpA rfl ag_24 (E rfl rfl) (fun hg => thing_get (Nat.mod_lt _ (by omega)))) ?_
                refine AWL.nil ?_
                refine AWP.one (i := 10) (by kernel_rfl) rfl ?_
                refine AWL.storeBox (i := 3) rfl rfl rfl ag_24 rfl (E rfl rfl) (E rfl rfl) rfl rfl (Nat.le_of_ble_eq_true rfl) ?_
                refine AWL.nil ?_
                refine AWP.done (by kernel_rfl) ?_
                exact ⟨b9, trivial, Sub.cons rfl rfl (Sub.cons rfl rfl (Sub.cons rfl rfl (Sub.cons rfl rfl (Sub.cons rfl rfl (Sub.cons rfl rfl Sub.nil))))), rfl⟩
              ·
                refine AWL.y rfl rfl (B rfl) (Yv.addN_i64 rfl (E rfl rfl) (E rfl rfl) (fun hg => by omega)) ?_
                refine AWL.nil ?_
                refine AWP.two (i := 1) (j := 6) (by kernel_rfl) rfl rfl ?_ ?_
                ·
                  refine AWL.y rfl rfl (B rfl) (Yv.loadBox rfl ag_25 (i := 0) rfl (E rfl rfl) rfl) ?_
                  refine AWL.nil ?_
                  refine AWP.one (i := 6) (by kernel_rfl) rfl ?_
                  refine AWL.y rfl rfl (B rfl) (Yv.remN rfl (E rfl rfl) (E rfl rfl) (fun hg => by omega)) ?_
                  refine AWL.nil ?_
                  refine AWP.one (i := 7) (by kernel_rfl) rfl ?_
                  refine AWL.y rfl rfl (B rfl) (Yv.indexSl (j := ((j + (turnK z g.things.length)) % g.things.length)) rfl ss_25 (B rfl) (E rfl rfl) (E rfl rfl) (fun hg => ⟨rfl, by have := Nat.mod_lt (j + (turnK z g.things.length)) (show 0 < g.things.length by omega); simp only [len_things]; omega⟩)) ?_
                  refine AWL.nil ?_
                  refine AWP.one (i := 8) (by kernel_rfl) rfl ?_
                  refine AWL.y rfl rfl (B rfl) (Yv.loadRpA rfl ag_24 (E rfl rfl) (fun hg => thing_get (Nat.mod_lt _ (by omega)))) ?_
                  refine AWL.nil ?_
                  refine AWP.one (i := 10) (by kernel_rfl) rfl ?_
                  refine AWL.storeBox (i := 3) rfl rfl rfl ag_24 rfl (E rfl rfl) (E rfl rfl) rfl rfl (Nat.le_of_ble_eq_true rfl) ?_
                  refine AWL.nil ?_
                  refine AWP.done (by kernel_rfl) ?_
                  exact ⟨b9, trivial, Sub.cons rfl rfl (Sub.cons rfl rfl (Sub.cons rfl rfl (Sub.cons rfl rfl (Sub.cons rfl rfl (Sub.cons rfl rfl Sub.nil))))), rfl⟩
                ·
                  refine AWL.y rfl rfl (B rfl) (Yv.remN rfl (E rfl rfl) (E rfl rfl) (fun hg => by omega)) ?_
                  refine AWL.nil ?_
                  refine AWP.one (i := 1) (by kernel_rfl) rfl ?_
                  refine AWL.y rfl rfl (B rfl) (Yv.loadBox rfl ag_25 (i := 0) rfl (E rfl rfl) rfl) ?_
                  refine AWL.nil ?_
                  refine AWP.one (i := 7) (by kernel_rfl) rfl ?_
                  refine AWL.y rfl rfl (B rfl) (Yv.indexSl (j := ((j + (turnK z g.things.length)) % g.things.length)) rfl ss_25 (B rfl) (E rfl rfl) (E rfl rfl) (fun hg => ⟨rfl, by have := Nat.mod_lt (j + (turnK z g.things.length)) (show 0 < g.things.length by omega); simp only [len_things]; omega⟩)) ?_
                  refine AWL.nil ?_
                  refine AWP.one (i := 8) (by kernel_rfl) rfl ?_
                  refine AWL.y rfl rfl (B rfl) (Yv.loadRpA rfl ag_24 (E rfl rfl) (fun hg => thing_get (Nat.mod_lt _ (by omega)))) ?_
                  refine AWL.nil ?_
                  refine AWP.one (i := 10) (by kernel_rfl) rfl ?_
                  refine AWL.storeBox (i := 3) rfl rfl rfl ag_24 rfl (E rfl rfl) (E rfl rfl) rfl rfl (Nat.le_of_ble_eq_true rfl) ?_
                  refine AWL.nil ?_
                  refine AWP.done (by kernel_rfl) ?_
                  exact ⟨b9, trivial, Sub.cons rfl rfl (Sub.cons rfl rfl (Sub.cons rfl rfl (Sub.cons rfl rfl (Sub.cons rfl rfl (Sub.cons rfl rfl Sub.nil))))), rfl⟩
          ·
            rintro b9 hmid
            refine AW.rseq ?_
            refine AWL.y rfl rfl (B rfl) (Yv.fieldBox rfl fo_24_3 (E rfl rfl)) ?_
            refine AWL.y rfl rfl (B rfl) (Yv.loadBox rfl ag_22 (i := 3) rfl (E rfl rfl) rfl) ?_
            refine AWL.y rfl rfl (B rfl) (Yv.move rfl (E rfl rfl)) ?_
            refine AWL.y rfl rfl (B rfl) (Yv.move rfl (E rfl rfl)) ?_
            refine AWL.callT rfl rfl (B rfl) rfl ce_28 (E rfl rfl) (evsC (E rfl rfl) (evsC (E rfl rfl) (evsC (E rfl rfl) evs0))) (moved28 (g.things.getD ((j + (turnK z g.things.length)) % g.things.length) default).refs g.things.length (turnK z g.things.length) hkk (by omega) hti.rl hgd.2) ?_
            rintro t48 S48 rfl
            refine AWL.y rfl rfl (B rfl) (Yv.fieldBox rfl fo_24_3 (E rfl rfl)) ?_
            refine AWL.storeBox (i := 3) rfl rfl rfl ag_22 rfl (E rfl rfl) (E rfl rfl) rfl rfl (Nat.le_of_ble_eq_true rfl) ?_
            refine AWL.nil ?_
            refine AW.region ?_
            refine AWL.y rfl rfl (B rfl) (Yv.fieldBox rfl fo_27_0 (E rfl rfl)) ?_
            refine AWL.y rfl rfl (B rfl) (Yv.loadBox rfl ag_25 (i := 1) rfl (E rfl rfl) rfl) ?_
            refine AWL.y rfl rfl (B rfl) (Yv.loadBoxA rfl ag_24 (i := 3) rfl (E rfl rfl) rfl rfl) ?_
            refine AWL.buildSliceE rfl rfl (B rfl) rfl el_25 (B rfl) rfl (evsC (E rfl rfl) evs0) (Nat.le_of_ble_eq_true rfl) rfl rfl ?_
            refine AWL.appendRow (i := 2) rfl rfl (B rfl) rfl el_25 (B rfl) rfl (E rfl rfl) (SrcT.sl so_25 (B rfl) (E rfl rfl) rfl) (by unfold maxLen; omega) (by omega) (fun A54 c54 => ?_)
            refine AWL.y rfl rfl (B rfl) (Yv.fieldBox rfl fo_27_0 (E rfl rfl)) ?_
            refine AWL.storeBox (i := 1) rfl rfl rfl ag_25 rfl (E rfl rfl) (E rfl rfl) rfl rfl (Nat.le_of_ble_eq_true rfl) ?_
            refine AWL.nil ?_
            refine AW.dropAt 3 ?_
            refine AW.region ?_
            refine AWL.y rfl rfl (B rfl) (Yv.move rfl (E rfl rfl)) ?_
            refine AWL.y rfl rfl (B rfl) (Yv.addN_i64 rfl (E rfl rfl) (E rfl rfl) (fun hg => by omega)) ?_
            refine AWL.y rfl rfl (B rfl) (Yv.assign rfl (E rfl rfl)) ?_
            refine AWL.nil ?_
            refine ⟨j + 1, A54, c54, by omega, by omega, Sub.cons rfl rfl (Sub.cons rfl rfl (Sub.cons rfl rfl (Sub.cons rfl rfl (Sub.cons rfl (by simp) Sub.nil)))), ?_⟩
            rw [turnL, thing_flat]
            rfl
        ·
          try replace h2f := of_decide_eq_false h2f
          refine AW.exit ?_
          refine AW.rseq ?_
          refine AWL.y rfl rfl (B rfl) (Yv.fieldBox rfl fo_27_0 (E rfl rfl)) ?_
          refine AWL.y rfl rfl (B rfl) (Yv.loadBox rfl ag_25 (i := 1) rfl (E rfl rfl) rfl) ?_
          refine AWL.y rfl rfl (B rfl) (Yv.buildS rfl sh_24 (evpC (E rfl rfl) (evpC (E rfl rfl) evp0)) (fun _ => rfl)) ?_
          refine AWL.retype (k := 58) (t' := thingT nobody) rfl (Le.agg (Les.cons .refl (Les.cons .refl (Les.cons .refl (Les.cons (nil_sl (by decide)) .refl))))) ?_
          refine AWL.buildSliceE rfl rfl (B rfl) rfl el_25 (B rfl) rfl (evsC (E rfl rfl) evs0) (Nat.le_of_ble_eq_true rfl) rfl rfl ?_
          refine AWL.appendRow (i := 2) rfl rfl (B rfl) rfl el_25 (B rfl) rfl (E rfl rfl) (SrcT.sl so_25 (B rfl) (E rfl rfl) rfl) (by unfold maxLen; omega) (by omega) (fun A60 c60 => ?_)
          refine AWL.y rfl rfl (B rfl) (Yv.fieldBox rfl fo_27_0 (E rfl rfl)) ?_
          refine AWL.storeBox (i := 1) rfl rfl rfl ag_25 rfl (E rfl rfl) (E rfl rfl) rfl rfl (Nat.le_of_ble_eq_true rfl) ?_
          refine AWL.nil ?_
          refine AW.freezeCell 2 1 0 rfl (by decide) rfl rfl ?_
          refine AW.rseq ?_
          refine AWL.y rfl rfl (B rfl) (Yv.fieldBox rfl fo_27_1 (E rfl rfl)) ?_
          refine AWL.y rfl rfl (B rfl) (Yv.loadBox rfl ag_22 (i := 0) rfl (E rfl rfl) rfl) ?_
          refine AWL.y rfl rfl (B rfl) (Yv.move rfl (E rfl rfl)) ?_
          refine AWL.y rfl rfl (B rfl) (Yv.move rfl (E rfl rfl)) ?_
          refine AWL.callT rfl rfl (B rfl) rfl ce_28 (E rfl rfl) (evsC (E rfl rfl) (evsC (E rfl rfl) (evsC (E rfl rfl) evs0))) (moved28 g.roots g.things.length (turnK z g.things.length) hkk (by omega) (by omega) (check_roots hck)) ?_
          rintro t66 S66 rfl
          refine AWL.y rfl rfl (B rfl) (Yv.fieldBox rfl fo_27_1 (E rfl rfl)) ?_
          refine AWL.storeBox (i := 1) rfl rfl rfl ag_22 rfl (E rfl rfl) (E rfl rfl) rfl rfl (Nat.le_of_ble_eq_true rfl) ?_
          refine AWL.nil ?_
          obtain rfl : j = g.things.length := by omega
          refine AW.eqS (S' := [.box b2 27 (gCells g), .box b7 27 (gCells (turnG g (turnK z g.things.length)))]) (by rw [show turnG g (turnK z g.things.length) = ⟨turnL g (turnK z g.things.length) g.things.length ++ [nobody], movF g.things.length (turnK z g.things.length) g.roots⟩ from rfl]; simp only [gCells, thing_flat]; rfl) ?_
          refine AW.rseq ?_
          refine AWL.y rfl rfl (B rfl) (Yv.loadBoxA rfl ag_27 (i := 0) rfl (E rfl rfl) rfl rfl) ?_
          refine AWL.y rfl rfl (B rfl) (Yv.loadBoxA rfl ag_27 (i := 1) rfl (E rfl rfl) rfl rfl) ?_
          refine AWL.callP rfl rfl (B rfl) rfl ce_21 (E rfl rfl) (evsC (E rfl rfl) (evsC (E rfl rfl) evs0)) (Same21 g (turnG g (turnK z g.things.length)) hgr hto) (fun t S h => h) ?_
          refine AWL.y rfl rfl (B rfl) (Yv.move rfl (E rfl rfl)) ?_
          refine AWL.ygT rfl rfl rfl rfl (B rfl) (Yv.loadBoxA rfl ag_27 (i := 1) rfl (E rfl rfl) rfl rfl) ?_
          refine AWL.ygT rfl rfl rfl rfl (B rfl) (Yv.loadBoxA rfl ag_27 (i := 0) rfl (E rfl rfl) rfl rfl) ?_
          refine AWL.callPgT rfl rfl rfl rfl (B rfl) rfl ce_21 (E rfl rfl) (evsC (Eg rfl rfl id) (evsC (Eg rfl rfl id) evs0)) (fun hg => Same21 (turnG g (turnK z g.things.length)) g hto hgr) (fun t S h => h) ?_
          refine AWL.y rfl rfl (B rfl) (Yv.pickAnd rfl (E rfl rfl) (Eg rfl rfl id)) ?_
          refine AWL.y rfl rfl (B rfl) (Yv.move rfl (E rfl rfl)) ?_
          refine AWL.ygT rfl rfl rfl rfl (B rfl) (Yv.loadBoxA rfl ag_27 (i := 0) rfl (E rfl rfl) rfl rfl) ?_
          refine AWL.ygT rfl rfl rfl rfl (B rfl) (Yv.loadBoxA rfl ag_27 (i := 0) rfl (E rfl rfl) rfl rfl) ?_
          refine AWL.callPgT rfl rfl rfl rfl (B rfl) rfl ce_21 (E rfl rfl) (evsC (Eg rfl rfl id) (evsC (Eg rfl rfl id) evs0)) (fun hg => Same21 g g hgr hgr) (fun t S h => h) ?_
          refine AWL.y rfl rfl (B rfl) (Yv.pickAnd rfl (E rfl rfl) (Eg rfl rfl id)) ?_
          refine AWL.y rfl rfl (B rfl) (Yv.move rfl (E rfl rfl)) ?_
          refine AWL.unguard rfl rfl rfl (by rw [hs1, hs2, hs3]; rfl) ?_
          refine AWL.callT rfl rfl (B rfl) rfl ce_15 (E rfl rfl) evs0 (known15) ?_
          rintro t82 S82 rfl
          refine AWL.y rfl rfl (B rfl) (Yv.pickAnd rfl (E rfl rfl) (E rfl rfl)) ?_
          refine AWL.y rfl rfl (B rfl) (Yv.assign rfl (E rfl rfl)) ?_
          refine AWL.nil ?_
          refine AW.ret (retI (.tmp rfl .nil) ?_)
          rw [hs1, hs2, hs3]; rfl

end Go.Proofs.Ytbndnmmceccbkaa
