/-
  CONTRACTS of the heap package: the graph by breadth; walked by program.
-/
import Derived.Test.YtbndnmmceccbkaaWk3
namespace Go.Proofs.Ytbndnmmceccbkaa
open Go Go.RowKit
set_option linter.unusedVariables false

set_option maxHeartbeats 400000 in
theorem Canon18 (g : Graph) (hgr : GraphOk 1099511627 g) :
    ACalls Try.prog 18 [graphT g] [] (fun t_ S => t_ = .tup [graphT (canonG g), .v (.int .i64 (checkF g))]) := by
  have hb1 := hgr.tl
  have hb2 := hgr.rl
  refine ACalls.intro Try.func18 rfl Try.ntmps18 (Nat.le_of_ble_eq_true rfl) rfl fun X w0 => ?_
  refine AW.rseq ?_
  refine AWL.boxOp rfl rfl (B rfl) rfl (E rfl rfl) rfl (fun b1 => ?_)
  refine AWL.allocOp rfl rfl (B rfl) rfl zc_27 (fun b2 => ?_)
  refine AWL.y rfl rfl (B rfl) (Yv.assign rfl (E rfl rfl)) ?_
  refine AWL.nil ?_
  refine AW.seq ?_
  refine AW.rseq ?_
  refine AWL.y rfl rfl (B rfl) (Yv.loadBoxA rfl ag_27 (i := 0) rfl (E rfl rfl) rfl rfl) ?_
  refine AWL.callP rfl rfl (B rfl) rfl ce_13 (E rfl rfl) (evsC (E rfl rfl) evs0) (Check13 g hgr) (fun t S h => h) ?_
  refine AWL.y rfl rfl (B rfl) (Yv.assign rfl (E rfl rfl)) ?_
  refine AWL.nil ?_
  refine AW.rseq ?_
  refine AWL.y rfl rfl (B rfl) (Yv.move rfl (E rfl rfl)) ?_
  refine AWL.y rfl rfl (B rfl) (Yv.neq rfl (E rfl rfl) (E rfl rfl)) ?_
  refine AWL.nil ?_
  refine AW.cond rfl (fun h0t => ?_) (fun h0f => ?_)
  ·
    try replace h0t := of_decide_eq_true h0t
    simp only [Bool.or_eq_true, Bool.and_eq_true, Bool.or_eq_false_iff, Bool.and_eq_false_iff, Bool.not_eq_true', Bool.not_eq_false', decide_eq_true_eq, decide_eq_false_iff_not, Decidable.not_not] at h0t
    refine AW.rseq ?_
    refine AWL.y rfl rfl (B rfl) (Yv.buildS rfl sh_27 evp0 (fun _ => rfl)) ?_
    refine AWL.y rfl rfl (B rfl) (Yv.move rfl (E rfl rfl)) ?_
    refine AWL.storeBox (i := 1) rfl rfl rfl ag_27 rfl (E rfl rfl) (E rfl rfl) rfl rfl (Nat.le_of_ble_eq_true rfl) ?_
    refine AWL.y rfl rfl (B rfl) (Yv.assign rfl (E rfl rfl)) ?_
    refine AWL.nil ?_
    refine AW.rowNil 24 4 ?_
    refine AW.freezeCell 2 1 0 rfl (by decide) rfl rfl ?_
    refine AW.rowNil 54 2 ?_
    refine AW.freezeCell 2 1 1 rfl (by decide) rfl rfl ?_
    refine AW.ret (retI (.cellA (i := 1) rfl ag_27 rfl rfl rfl (.tmp rfl .nil)) ?_)
    show T.tup [graphT ⟨[], []⟩, _] = _
    rw [canonG, check_nz h0t]
    rfl
  ·
    try replace h0f := of_decide_eq_false h0f
    simp only [Bool.or_eq_true, Bool.and_eq_true, Bool.or_eq_false_iff, Bool.and_eq_false_iff, Bool.not_eq_true', Bool.not_eq_false', decide_eq_true_eq, decide_eq_false_iff_not, Decidable.not_not] at h0f
    have hck := check_zero.1 h0f
    have hk1 := metF_ok (RowOk.nil g.things.length) (check_roots hck)
    refine AW.skip ?_
    refine AW.rseq ?_
    refine AWL.makeMapOp rfl rfl (B rfl) rfl (fun b17 => ?_)
    refine AWL.allocOp rfl rfl (B rfl) rfl zc_64 (fun b5 => ?_)
    refine AWL.storeBox (i := 3) rfl rfl rfl ag_64 rfl (E rfl rfl) (E rfl rfl) rfl rfl (Nat.le_of_ble_eq_true rfl) ?_
    refine AWL.nil ?_
    refine AW.rseq ?_
    refine AWL.allocOp rfl rfl (B rfl) rfl zc_65 (fun b6 => ?_)
    refine AWL.nil ?_
    refine AW.rowNil 2 1 ?_
    refine AW.perm (List.perm_append_comm (l₁ := CS b5 b17 b6 none 0 []) (l₂ := [.box b1 27 (gCells g), .box b2 27 [.v (.slice none 0 0), .v (.slice none 0 0)]])) ?_
    refine AW.rseq ?_
    refine AWL.y rfl rfl (B rfl) (Yv.makeFunc rfl evs0 rfl (evsC (E rfl rfl) (evsC (E rfl rfl) evs0)) rfl) ?_
    refine AWL.y rfl rfl (B rfl) (Yv.assign rfl (E rfl rfl)) ?_
    refine AWL.nil ?_
    refine AW.rseq ?_
    refine AWL.y rfl rfl (B rfl) (Yv.move rfl (E rfl rfl)) ?_
    refine AWL.y rfl rfl (B rfl) (Yv.fieldBox rfl fo_27_1 (E rfl rfl)) ?_
    refine AWL.y rfl rfl (B rfl) (Yv.loadBox rfl ag_22 (i := 4) rfl (E rfl rfl) rfl) ?_
    refine AWL.call rfl rfl (B rfl) rfl ce_42 (E rfl rfl) (evsC (E rfl rfl) evs0) (S1 := (CS b5 b17 b6 none 0 [])) (S2 := _) rfl (met42 g.roots [] b5 b17 b6 none 0 (by omega) (by simp)) ?_
    rintro t22 S22 ⟨rfl, A', c', rfl⟩
    refine AWL.y rfl rfl (B rfl) (Yv.buildS rfl sh_27 (evpC (E rfl rfl) evp0) (fun _ => rfl)) ?_
    refine AWL.allocOp rfl rfl (B rfl) rfl zc_27 (fun b8 => ?_)
    refine AWL.storeBox (i := 6) rfl rfl rfl ag_27 rfl (E rfl rfl) (E rfl rfl) rfl rfl (Nat.le_of_ble_eq_true rfl) ?_
    refine AWL.nil ?_
    refine AW.rowNil 24 4 ?_
    refine AW.seq ?_
    refine AW.rseq ?_
    refine AWL.y rfl rfl (B rfl) (Yv.assign rfl (E rfl rfl)) ?_
    refine AWL.nil ?_
    refine AW.block ?_
    refine AW.loop5 (fun (m : List Int × List Thing) (A1 : Option Addr) (c1 : Nat) (Ao : Option Addr) (co : Nat) => [(1, true, .v (vp b1)), (2, true, .v (vp b2)), (6, true, .v (vp b6)), (7, true, .v (.func (.func 42) #[] #[vp b5, vp b6])), (8, true, .v (vp b8)), (9, true, .v (.int .i64 (m.2.length : Int)))]) (fun (m : List Int × List Thing) (A1 : Option Addr) (c1 : Nat) (Ao : Option Addr) (co : Nat) => (CS b5 b17 b6 A1 c1 m.1 ++ [.box b1 27 (gCells g), .box b2 27 [.v (.slice none 0 0), .v (.slice none 0 0)], .box b8 27 [.v (.slice Ao m.2.length co), .sl 2 ((metF [] g.roots).2.flatMap refCells)], .row Ao m.2.length co 24 4 (m.2.flatMap thingCells)])) (fun (m : List Int × List Thing) (A1 : Option Addr) (c1 : Nat) (Ao : Option Addr) (co : Nat) => canonS g g.things.length (metF [] g.roots).1 [] = canonS g (g.things.length - m.2.length) m.1 m.2 ∧ RowOk g.things.length m.1 ∧ m.2.length ≤ m.1.length) (fun (m : List Int × List Thing) (A1 : Option Addr) (c1 : Nat) (Ao : Option Addr) (co : Nat) => g.things.length - m.2.length) (((metF [] g.roots).1, [])) (A') (c') none 0 ?_ ?_ ?_ ?_
    · exact ⟨rfl, hk1, Nat.zero_le _⟩
    · exact (Sub.cons rfl rfl (Sub.cons rfl rfl (Sub.cons rfl rfl (Sub.cons rfl rfl (Sub.cons rfl rfl (Sub.cons rfl rfl Sub.nil))))))
    · rfl
    ·
      intro m A1 c1 Ao co hinv
      obtain ⟨hcn, hok, hle⟩ := hinv
      have hml := hok.len
      refine AW.seq ?_
      refine AW.rseq ?_
      refine AWL.y rfl rfl (B rfl) (Yv.move rfl (E rfl rfl)) ?_
      refine AWL.y rfl rfl (B rfl) (Yv.loadBox rfl ag_65 (i := 2) rfl (E rfl rfl) rfl) ?_
      refine AWL.y rfl rfl (B rfl) (Yv.lenV rfl so_65 (E rfl rfl)) ?_
      refine AWL.y rfl rfl (B rfl) (Yv.lss rfl (E rfl rfl) (E rfl rfl)) ?_
      refine AWL.nil ?_
      refine AW.cond rfl (fun h1t => ?_) (fun h1f => ?_)
      ·
        try replace h1t := of_decide_eq_true h1t
        have hz := row_at hok (i := m.2.length) (by omega)
        have hzt : ThingOk 1099511627 (g.things.getD (m.1.getD m.2.length 0).toNat default) := hgr.ts _ (getD_mem' (by omega))
        refine AW.skip ?_
        refine AW.seq ?_
        refine AW.block ?_
        refine AW.mid (α := Nat) (fun b10 => [(1, true, .v (vp b1)), (2, true, .v (vp b2)), (6, true, .v (vp b6)), (7, true, .v (.func (.func 42) #[] #[vp b5, vp b6])), (8, true, .v (vp b8)), (9, true, .v (.int .i64 (m.2.length : Int))), (10, true, .v (vp b10))]) (fun b10 => CS b5 b17 b6 A1 c1 m.1 ++ [.box b1 27 (gCells g), .box b2 27 [.v (.slice none 0 0), .v (.slice none 0 0)], .box b8 27 [.v (.slice Ao m.2.length co), .sl 2 ((metF [] g.roots).2.flatMap refCells)], .row Ao m.2.length co 24 4 (m.2.flatMap thingCells)] ++ [.box b10 24 (thingCells (g.things.getD (m.1.getD m.2.length 0).toNat default))]) (fun _ => True) ?_ ?_
        ·
          refine AW.regionP rfl ?_
          refine AWP.take (i := 0) rfl (by kernel_rfl) (by kernel_rfl) (by kernel_rfl) rfl rfl (B rfl) (freeField rfl fo_27_0 (E rfl rfl)) ?_
          refine AWP.take (i := 3) rfl (by kernel_rfl) (by kernel_rfl) (by kernel_rfl) rfl rfl (B rfl) (freeMove rfl (E rfl rfl)) ?_
          refine AWP.three (i := 1) (j := 2) (k := 8) (by kernel_rfl) rfl rfl rfl ?_ ?_ ?_
          ·
            refine AWL.y rfl rfl (B rfl) (Yv.loadBox rfl ag_25 (i := 4) rfl (E rfl rfl) rfl) ?_
            refine AWL.nil ?_
            refine AWP.two (i := 2) (j := 8) (by kernel_rfl) rfl rfl ?_ ?_
            ·
              refine AWL.y rfl rfl (B rfl) (Yv.loadBox rfl ag_65 (i := 2) rfl (E rfl rfl) rfl) ?_
              refine AWL.nil ?_
              refine AWP.two (i := 4) (j := 8) (by kernel_rfl) rfl rfl ?_ ?_
              ·
                refine AWL.y rfl rfl (B rfl) (Yv.indexRow (j := m.2.length) rfl ss_65 (i := 3) rfl (E rfl rfl) (E rfl rfl) (fun hg => ⟨rfl, by omega⟩)) ?_
                refine AWL.nil ?_
                refine AWP.two (i := 5) (j := 8) (by kernel_rfl) rfl rfl ?_ ?_
                ·
                  refine AWL.y rfl rfl (B rfl) (Yv.loadEp rfl ag_2 (i := 3) rfl (E rfl rfl) (fun hg => z64_get (by omega))) ?_
                  refine AWL.nil ?_
                  refine AWP.two (i := 6) (j := 8) (by kernel_rfl) rfl rfl ?_ ?_
                  ·
                    refine AWL.y rfl rfl (B rfl) (Yv.indexSl (j := (m.1.getD m.2.length 0).toNat) rfl ss_25 (B rfl) (E rfl rfl) (E rfl rfl) (fun hg => ⟨(Int.toNat_of_nonneg (by omega)).symm, by simp only [len_things]; omega⟩)) ?_
                    refine AWL.nil ?_
                    refine AWP.two (i := 7) (j := 8) (by kernel_rfl) rfl rfl ?_ ?_
                    ·
                      refine AWL.y rfl rfl (B rfl) (Yv.loadRpA rfl ag_24 (E rfl rfl) (fun hg => thing_get (by omega))) ?_
                      refine AWL.nil ?_
                      refine AWP.one (i := 8) (by kernel_rfl) rfl ?_
                      refine AWL.allocOp rfl rfl (B rfl) rfl zc_24 (fun b10 => ?_)
                      refine AWL.nil ?_
                      refine AWP.one (i := 9) (by kernel_rfl) rfl ?_
                      refine AWL.storeBox (i := 8) rfl rfl rfl ag_24 rfl (E rfl rfl) (E rfl rfl) rfl rfl (Nat.le_of_ble_eq_true rfl) ?_
                      refine AWL.nil ?_
                      refine AWP.done (by kernel_rfl) ?_
                      exact ⟨b10, trivial, Sub.cons rfl rfl (Sub.cons rfl rfl (Sub.cons rfl rfl (Sub.cons rfl rfl (Sub.cons rfl rfl (Sub.cons rfl rfl (Sub.cons rfl rfl Sub.nil)))))), rfl⟩
                    ·
                      refine AWL.allocOp rfl rfl (B rfl) rfl zc_24 (fun b10 => ?_)
                      refine AWL.nil ?_
                      refine AWP.one (i := 7) (by kernel_rfl) rfl ?_
                      refine AWL.y rfl rfl (B rfl) (Yv.loadRpA rfl ag_24 (E rfl rfl) (fun hg => thing_get (by omega))) ?_
                      refine AWL.nil ?_
                      refine AWP.one (i := 9) (by kernel_rfl) rfl ?_
                      refine AWL.storeBox (i := 8) rfl rfl rfl ag_24 rfl (E rfl rfl) (E rfl rfl) rfl rfl (Nat.le_of_ble_eq_true rfl) ?_
                      refine AWL.nil ?_
                      refine AWP.done (by kernel_rfl) ?_
                      exact ⟨b10, trivial, Sub.cons rfl rfl (Sub.cons rfl rfl (Sub.cons rfl rfl (Sub.cons rfl rfl (Sub.cons rfl rfl (Sub.cons rfl rfl (Sub.cons rfl rfl Sub.nil)))))), rfl⟩
                  ·
                    refine AWL.allocOp rfl rfl (B rfl) rfl zc_24 (fun b10 => ?_)
                    refine AWL.nil ?_
                    refine AWP.one (i := 6) (by kernel_rfl) rfl ?_
                    refine AWL.y rfl rfl (B rfl) (Yv.indexSl (j := (m.1.getD m.2.length 0).toNat) rfl ss_25 (B rfl) (E rfl rfl) (E rfl rfl) (fun hg => ⟨(Int.toNat_of_nonneg (by omega)).symm, by simp only [len_things]; omega⟩)) ?_
                    refine AWL.nil ?_
                    refine AWP.one (i := 7) (by kernel_rfl) rfl ?_
                    refine AWL.y rfl rfl (B rfl) (Yv.loadRpA rfl ag_24 (E rfl rfl) (fun hg => thing_get (by omega))) ?_
                    refine AWL.nil ?_
                    refine AWP.one (i := 9) (by kernel_rfl) rfl ?_
                    refine AWL.storeBox (i := 8) rfl rfl rfl ag_24 rfl (E rfl rfl) (E rfl rfl) rfl rfl (Nat.le_of_ble_eq_true rfl) ?_
                    refine AWL.nil ?_
                    refine AWP.done (by kernel_rfl) ?_
                    exact ⟨b10, trivial, Sub.cons rfl rfl (Sub.cons rfl rfl (Sub.cons rfl rfl (Sub.cons rfl rfl (Sub.cons rfl rfl (Sub.cons rfl rfl (Sub.cons rfl rfl Sub.nil)))))), rfl⟩
                ·
                  refine AWL.allocOp rfl rfl (B rfl) rfl zc_24 (fun b10 => ?_)
                  refine AWL.nil ?_
                  refine AWP.one (i := 5) (by kernel_rfl) rfl ?_
                  refine AWL.y rfl rfl (B rfl) (Yv.loadEp rfl ag_2 (i := 3) rfl (E rfl rfl) (fun hg => z64_get (by omega))) ?_
                  refine AWL.nil ?_
                  refine AWP.one (i := 6) (by kernel_rfl) rfl ?_
                  refine AWL.y rfl rfl (B rfl) (Yv.indexSl (j := (m.1.getD m.2.length 0).toNat) rfl ss_25 (B rfl) (E rfl rfl) (E rfl rfl) (fun hg => ⟨(Int.toNat_of_nonneg (by omega)).symm, by simp only [len_things]; omega⟩)) ?_
                  refine AWL.nil ?_
                  refine AWP.one (i := 7) (by kernel_rfl) rfl ?_
                  refine AWL.y rfl rfl (B rfl) (Yv.loadRpA rfl ag_24 (E rfl rfl) (fun hg => thing_get (by omega))) ?_
                  refine AWL.nil ?_
                  refine AWP.one (i := 9) (by kernel_rfl) rfl ?_
                  refine AWL.storeBox (i := 8) rfl rfl rfl ag_24 rfl (E rfl rfl) (E rfl rfl) rfl rfl (Nat.le_of_ble_eq_true rfl) ?_
                  refine AWL.nil ?_
                  refine AWP.done (by kernel_rfl) ?_
                  exact ⟨b10, trivial, Sub.cons rfl rfl (Sub.cons rfl rfl (Sub.cons rfl rfl (Sub.cons rfl rfl (Sub.cons rfl rfl (Sub.cons rfl rfl (Sub.cons rfl rfl Sub.nil)))))), rfl⟩
              ·
                refine AWL.allocOp rfl rfl (B rfl) rfl zc_24 (fun b10 => ?_)
                refine AWL.nil ?_
                refine AWP.one (i := 4) (by kernel_rfl) rfl ?_
                refine AWL.y rfl rfl (B rfl) (Yv.indexRow (j := m.2.length) rfl ss_65 (i := 3) rfl (E rfl rfl) (E rfl rfl) (fun hg => ⟨rfl, by omega⟩)) ?_
                refine AWL.nil ?_
                refine AWP.one (i := 5) (by kernel_rfl) rfl ?_
                refine AWL.y rfl rfl (B rfl) (Yv.loadEp rfl ag_2 (i := 3) rfl (E rfl rfl) (fun hg => z64_get (by omega))) ?_
                refine AWL.nil ?_
                refine AWP.one (i := 6) (by kernel_rfl) rfl ?_
                refine AWL.y rfl rfl (B rfl) (Yv.indexSl (j := (m.1.getD m.2.length 0).toNat) rfl ss_25 (B rfl) (E rfl rfl) (E rfl rfl) (fun hg => ⟨(Int.toNat_of_nonneg (by omega)).symm, by simp only [len_things]; omega⟩)) ?_
                refine AWL.nil ?_
                refine AWP.one (i := 7) (by kernel_rfl) rfl ?_
                refine AWL.y rfl rfl (B rfl) (Yv.loadRpA rfl ag_24 (E rfl rfl) (fun hg => thing_get (by omega))) ?_
                refine AWL.nil ?_
                refine AWP.one (i := 9) (by kernel_rfl) rfl ?_
                refine AWL.storeBox (i := 8) rfl rfl rfl ag_24 rfl (E rfl rfl) (E rfl rfl) rfl rfl (Nat.le_of_ble_eq_true rfl) ?_
                refine AWL.nil ?_
                refine AWP.done (by kernel_rfl) ?_
                exact ⟨b10, trivial, Sub.cons rfl rfl (Sub.cons rfl rfl (Sub.cons rfl rfl (Sub.cons rfl rfl (Sub.cons rfl rfl (Sub.cons rfl rfl (Sub.cons rfl rfl Sub.nil)))))), rfl⟩
            ·
              refine AWL.allocOp rfl rfl (B rfl) rfl zc_24 (fun b10 => ?_)
              refine AWL.nil ?_
              refine AWP.one (i := 2) (by kernel_rfl) rfl ?_
              refine AWL.y rfl rfl (B rfl) (Yv.loadBox rfl ag_65 (i := 2) rfl (E rfl rfl) rfl) ?_
              refine AWL.nil ?_
              refine AWP.one (i := 4) (by kernel_rfl) rfl ?_
              refine AWL.y rfl rfl (B rfl) (Yv.indexRow (j := m.2.length) rfl ss_65 (i := 3) rfl (E rfl rfl) (E rfl rfl) (fun hg => ⟨rfl, by omega⟩)) ?_
              refine AWL.nil ?_
              refine AWP.one (i := 5) (by kernel_rfl) rfl ?_
              refine AWL.y rfl rfl (B rfl) (Yv.loadEp rfl ag_2 (i := 3) rfl (E rfl rfl) (fun hg => z64_get (by omega))) ?_
              refine AWL.nil ?_
              refine AWP.one (i := 6) (by kernel_rfl) rfl ?_
              refine AWL.y rfl rfl (B rfl) (Yv.indexSl (j := (m.1.getD m.2.length 0).toNat) rfl ss_25 (B rfl) (E rfl rfl) (E rfl rfl) (fun hg => ⟨(Int.toNat_of_nonneg (by omega)).symm, by simp only [len_things]; omega⟩)) ?_
              refine AWL.nil ?_
              refine AWP.one (i := 7) (by kernel_rfl) rfl ?_
              refine AWL.y rfl rfl (B rfl) (Yv.loadRpA rfl ag_24 (E rfl rfl) (fun hg => thing_get (by omega))) ?_
              refine AWL.nil ?_
              refine AWP.one (i := 9) (by kernel_rfl) rfl ?_
              refine AWL.storeBox (i := 8) rfl rfl rfl ag_24 rfl (E rfl rfl) (E rfl rfl) rfl rfl (Nat.le_of_ble_eq_true rfl) ?_
              refine AWL.nil ?_
              refine AWP.done (by kernel_rfl) ?_
              exact ⟨b10, trivial, Sub.cons rfl rfl (Sub.cons rfl rfl (Sub.cons rfl rfl (Sub.cons rfl rfl (Sub.cons rfl rfl (Sub.cons rfl rfl (Sub.cons rfl rfl Sub.nil)))))), rfl⟩
          ·
            refine AWL.y rfl rfl (B rfl) (Yv.loadBox rfl ag_65 (i := 2) rfl (E rfl rfl) rfl) ?_
            refine AWL.nil ?_
            refine AWP.three (i := 1) (j := 4) (k := 8) (by kernel_rfl) rfl rfl rfl ?_ ?_ ?_
            ·
              refine AWL.y rfl rfl (B rfl) (Yv.loadBox rfl ag_25 (i := 4) rfl (E rfl rfl) rfl) ?_
              refine AWL.nil ?_
              refine AWP.two (i := 4) (j := 8) (by kernel_rfl) rfl rfl ?_ ?_
              ·
                refine AWL.y rfl rfl (B rfl) (Yv.indexRow (j := m.2.length) rfl ss_65 (i := 3) rfl (E rfl rfl) (E rfl rfl) (fun hg => ⟨rfl, by omega⟩)) ?_
                refine AWL.nil ?_
                refine AWP.two (i := 5) (j := 8) (by kernel_rfl) rfl rfl ?_ ?_
                ·
                  refine AWL.y rfl rfl (B rfl) (Yv.loadEp rfl ag_2 (i := 3) rfl (E rfl rfl) (fun hg => z64_get (by omega))) ?_
                  refine AWL.nil ?_
                  refine AWP.two (i := 6) (j := 8) (by kernel_rfl) rfl rfl ?_ ?_
                  ·
                    refine AWL.y rfl rfl (B rfl) (Yv.indexSl (j := (m.1.getD m.2.length 0).toNat) rfl ss_25 (B rfl) (E rfl rfl) (E rfl rfl) (fun hg => ⟨(Int.toNat_of_nonneg (by omega)).symm, by simp only [len_things]; omega⟩)) ?_
                    refine AWL.nil ?_
                    refine AWP.two (i := 7) (j := 8) (by kernel_rfl) rfl rfl ?_ ?_
                    ·
                      refine AWL.y rfl rfl (B rfl) (Yv.loadRpA rfl ag_24 (E rfl rfl) (fun hg => thing_get (by omega))) ?_
                      refine AWL.nil ?_
                      refine AWP.one (i := 8) (by kernel_rfl) rfl ?_
                      refine AWL.allocOp rfl rfl (B rfl) rfl zc_24 (fun b10 => ?_)
                      refine AWL.nil ?_
                      refine AWP.one (i := 9) (by kernel_rfl) rfl ?_
                      refine AWL.storeBox (i := 8) rfl rfl rfl ag_24 rfl (E rfl rfl) (E rfl rfl) rfl rfl (Nat.le_of_ble_eq_true rfl) ?_
                      refine AWL.nil ?_
                      refine AWP.done (by kernel_rfl) ?_
                      exact ⟨b10, trivial, Sub.cons rfl rfl (Sub.cons rfl rfl (Sub.cons rfl rfl (Sub.cons rfl rfl (Sub.cons rfl rfl (Sub.cons rfl rfl (Sub.cons rfl rfl Sub.nil)))))), rfl⟩
                    ·
                      refine AWL.allocOp rfl rfl (B rfl) rfl zc_24 (fun b10 => ?_)
                      refine AWL.nil ?_
                      refine AWP.one (i := 7) (by kernel_rfl) rfl ?_
                      refine AWL.y rfl rfl (B rfl) (Yv.loadRpA rfl ag_24 (E rfl rfl) (fun hg => thing_get (by omega))) ?_
                      refine AWL.nil ?_
                      refine AWP.one (i := 9) (by kernel_rfl) rfl ?_
                      refine AWL.storeBox (i := 8) rfl rfl rfl ag_24 rfl (E rfl rfl) (E rfl rfl) rfl rfl (Nat.le_of_ble_eq_true rfl) ?_
                      refine AWL.nil ?_
                      refine AWP.done (by kernel_rfl) ?_
                      exact ⟨b10, trivial, Sub.cons rfl rfl (Sub.cons rfl rfl (Sub.cons rfl rfl (Sub.cons rfl rfl (Sub.cons rfl rfl (Sub.cons rfl rfl (Sub.cons rfl rfl Sub.nil)))))), rfl⟩
                  ·
                    refine AWL.allocOp rfl rfl (B rfl) rfl zc_24 (fun b10 => ?_)
                    refine AWL.nil ?_
                    refine AWP.one (i := 6) (by kernel_rfl) rfl ?_
                    refine AWL.y rfl rfl (B rfl) (Yv.indexSl (j := (m.1.getD m.2.length 0).toNat) rfl ss_25 (B rfl) (E rfl rfl) (E rfl rfl) (fun hg => ⟨(Int.toNat_of_nonneg (by omega)).symm, by simp only [len_things]; omega⟩)) ?_
                    refine AWL.nil ?_
                    refine AWP.one (i := 7) (by kernel_rfl) rfl ?_
                    refine AWL.y rfl rfl (B rfl) (Yv.loadRpA rfl ag_24 (E rfl rfl) (fun hg => thing_get (by omega))) ?_
                    refine AWL.nil ?_
                    refine AWP.one (i := 9) (by kernel_rfl) rfl ?_
                    refine AWL.storeBox (i := 8) rfl rfl rfl ag_24 rfl (E rfl rfl) (E rfl rfl) rfl rfl (Nat.le_of_ble_eq_true rfl) ?_
                    refine AWL.nil ?_
                    refine AWP.done (by kernel_rfl) ?_
                    exact ⟨b10, trivial, Sub.cons rfl rfl (Sub.cons rfl rfl (Sub.cons rfl rfl (Sub.cons rfl rfl (Sub.cons rfl rfl (Sub.cons rfl rfl (Sub.cons rfl rfl Sub.nil)))))), rfl⟩
                ·
                  refine AWL.allocOp rfl rfl (B rfl) rfl zc_24 (fun b10 => ?_)
                  refine AWL.nil ?_
                  refine AWP.one (i := 5) (by kernel_rfl) rfl ?_
                  refine AWL.y rfl rfl (B rfl) (Yv.loadEp rfl ag_2 (i := 3) rfl (E rfl rfl) (fun hg => z64_get (by omega))) ?_
                  refine AWL.nil ?_
                  refine AWP.one (i := 6) (by kernel_rfl) rfl ?_
                  refine AWL.y rfl rfl (B rfl) (Yv.indexSl (j := (m.1.getD m.2.length 0).toNat) rfl ss_25 (B rfl) (E rfl rfl) (E rfl rfl) (fun hg => ⟨(Int.toNat_of_nonneg (by omega)).symm, by simp only [len_things]; omega⟩)) ?_
                  refine AWL.nil ?_
                  refine AWP.one (i := 7) (by kernel_rfl) rfl ?_
                  refine AWL.y rfl rfl (B rfl) (Yv.loadRpA rfl ag_24 (E rfl rfl) (fun hg => thing_get (by omega))) ?_
                  refine AWL.nil ?_
                  refine AWP.one (i := 9) (by kernel_rfl) rfl ?_
                  refine AWL.storeBox (i := 8) rfl rfl rfl ag_24 rfl (E rfl rfl) (E rfl rfl) rfl rfl (Nat.le_of_ble_eq_true rfl) ?_
                  refine AWL.nil ?_
                  refine AWP.done (by kernel_rfl) ?_
                  exact ⟨b10, trivial, Sub.cons rfl rfl (Sub.cons rfl rfl (Sub.cons rfl rfl (Sub.cons rfl rfl (Sub.cons rfl rfl (Sub.cons rfl rfl (Sub.cons rfl rfl Sub.nil)))))), rfl⟩
              ·
                refine AWL.allocOp rfl rfl (B rfl) rfl zc_24 (fun b10 => ?_)
                refine AWL.nil ?_
                refine AWP.one (i := 4) (by kernel_rfl) rfl ?_
                refine AWL.y rfl rfl (B rfl) (Yv.indexRow (j := m.2.length) rfl ss_65 (i := 3) rfl (E rfl rfl) (E rfl rfl) (fun hg => ⟨rfl, by omega⟩)) ?_
                refine AWL.nil ?_
                refine AWP.one (i := 5) (by kernel_rfl) rfl ?_
                refine AWL.y rfl rfl (B rfl) (Yv.loadEp rfl ag_2 (i := 3) rfl (E rfl rfl) (fun hg => z64_get (by omega))) ?_
                refine AWL.nil ?_
                refine AWP.one (i := 6) (by kernel_rfl) rfl ?_
                refine AWL.y rfl rfl (B rfl) (Yv.indexSl (j := (m.1.getD m.2.length 0).toNat) rfl ss_25 (B rfl) (E rfl rfl) (E rfl rfl) (fun hg => ⟨(Int.toNat_of_nonneg (by omega)).symm, by simp only [len_things]; omega⟩)) ?_
                refine AWL.nil ?_
                refine AWP.one (i := 7) (by kernel_rfl) rfl ?_
                refine AWL.y rfl rfl (B rfl) (Yv.loadRpA rfl ag_24 (E rfl rfl) (fun hg => thing_get (by omega))) ?_
                refine AWL.nil ?_
                refine AWP.one (i := 9) (by kernel_rfl) rfl ?_
                refine AWL.storeBox (i := 8) rfl rfl rfl ag_24 rfl (E rfl rfl) (E rfl rfl) rfl rfl (Nat.le_of_ble_eq_true rfl) ?_
                refine AWL.nil ?_
                refine AWP.done (by kernel_rfl) ?_
                exact ⟨b10, trivial, Sub.cons rfl rfl (Sub.cons rfl rfl (Sub.cons rfl rfl (Sub.cons rfl rfl (Sub.cons rfl rfl (Sub.cons rfl rfl (Sub.cons rfl rfl Sub.nil)))))), rfl⟩
            ·
              refine AWL.y rfl rfl (B rfl) (Yv.indexRow (j := m.2.length) rfl ss_65 (i := 3) rfl (E rfl rfl) (E rfl rfl) (fun hg => ⟨rfl, by omega⟩)) ?_
              refine AWL.nil ?_
              refine AWP.three (i := 1) (j := 5) (k := 8) (by kernel_rfl) rfl rfl rfl ?_ ?_ ?_
              ·
                refine AWL.y rfl rfl (B rfl) (Yv.loadBox rfl ag_25 (i := 4) rfl (E rfl rfl) rfl) ?_
                refine AWL.nil ?_
                refine AWP.two (i := 5) (j := 8) (by kernel_rfl) rfl rfl ?_ ?_
                ·
                  refine AWL.y rfl rfl (B rfl) (Yv.loadEp rfl ag_2 (i := 3) rfl (E rfl rfl) (fun hg => z64_get (by omega))) ?_
                  refine AWL.nil ?_
                  refine AWP.two (i := 6) (j := 8) (by kernel_rfl) rfl rfl ?_ ?_
                  ·
                    refine AWL.y rfl rfl (B rfl) (Yv.indexSl (j := (m.1.getD m.2.length 0).toNat) rfl ss_25 (B rfl) (E rfl rfl) (E rfl rfl) (fun hg => ⟨(Int.toNat_of_nonneg (by omega)).symm, by simp only [len_things]; omega⟩)) ?_
                    refine AWL.nil ?_
                    refine AWP.two (i := 7) (j := 8) (by kernel_rfl) rfl rfl ?_ ?_
                    ·
                      refine AWL.y rfl rfl (B rfl) (Yv.loadRpA rfl ag_24 (E rfl rfl) (fun hg => thing_get (by omega))) ?_
                      refine AWL.nil ?_
                      refine AWP.one (i := 8) (by kernel_rfl) rfl ?_
                      refine AWL.allocOp rfl rfl (B rfl) rfl zc_24 (fun b10 => ?_)
                      refine AWL.nil ?_
                      refine AWP.one (i := 9) (by kernel_rfl) rfl ?_
                      refine AWL.storeBox (i := 8) rfl rfl rfl ag_24 rfl (E rfl rfl) (E rfl rfl) rfl rfl (Nat.le_of_ble_eq_true rfl) ?_
                      refine AWL.nil ?_
                      refine AWP.done (by kernel_rfl) ?_
                      exact ⟨b10, trivial, Sub.cons rfl rfl (Sub.cons rfl rfl (Sub.cons rfl rfl (Sub.cons rfl rfl (Sub.cons rfl rfl (Sub.cons rfl rfl (Sub.cons rfl rfl Sub.nil)))))), rfl⟩
                    ·
                      refine AWL.allocOp rfl rfl (B rfl) rfl zc_24 (fun b10 => ?_)
                      refine AWL.nil ?_
                      refine AWP.one (i := 7) (by kernel_rfl) rfl ?_
                      refine AWL.y rfl rfl (B rfl) (Yv.loadRpA rfl ag_24 (E rfl rfl) (fun hg => thing_get (by omega))) ?_
                      refine AWL.nil ?_
                      refine AWP.one (i := 9) (by kernel_rfl) rfl ?_
                      refine AWL.storeBox (i := 8) rfl rfl rfl ag_24 rfl (E rfl rfl) (E rfl rfl) rfl rfl (Nat.le_of_ble_eq_true rfl) ?_
                      refine AWL.nil ?_
                      refine AWP.done (by kernel_rfl) ?_
                      exact ⟨b10, trivial, Sub.cons rfl rfl (Sub.cons rfl rfl (Sub.cons rfl rfl (Sub.cons rfl rfl (Sub.cons rfl rfl (Sub.cons rfl rfl (Sub.cons rfl rfl Sub.nil)))))), rfl⟩
                  ·
                    refine AWL.allocOp rfl rfl (B rfl) rfl zc_24 (fun b10 => ?_)
                    refine AWL.nil ?_
                    refine AWP.one (i := 6) (by kernel_rfl) rfl ?_
                    refine AWL.y rfl rfl (B rfl) (Yv.indexSl (j := (m.1.getD m.2.length 0).toNat) rfl ss_25 (B rfl) (E rfl rfl) (E rfl rfl) (fun hg => ⟨(Int.toNat_of_nonneg (by omega)).symm, by simp only [len_things]; omega⟩)) ?_
                    refine AWL.nil ?_
                    refine AWP.one (i := 7) (by kernel_rfl) rfl ?_
                    refine AWL.y rfl rfl (B rfl) (Yv.loadRpA rfl ag_24 (E rfl rfl) (fun hg => thing_get (by omega))) ?_
                    refine AWL.nil ?_
                    refine AWP.one (i := 9) (by kernel_rfl) rfl ?_
                    refine AWL.storeBox (i := 8) rfl rfl rfl ag_24 rfl (E rfl rfl) (E rfl rfl) rfl rfl (Nat.le_of_ble_eq_true rfl) ?_
                    refine AWL.nil ?_
                    refine AWP.done (by kernel_rfl) ?_
                    exact ⟨b10, trivial, Sub.cons rfl rfl (Sub.cons rfl rfl (Sub.cons rfl rfl (Sub.cons rfl rfl (Sub.cons rfl rfl (Sub.cons rfl rfl (Sub.cons rfl rfl Sub.nil)))))), rfl⟩
                ·
                  refine AWL.allocOp rfl rfl (B rfl) rfl zc_24 (fun b10 => ?_)
                  refine AWL.nil ?_
                  refine AWP.one (i := 5) (by kernel_rfl) rfl ?_
                  refine AWL.y rfl rfl (B rfl) (Yv.loadEp rfl ag_2 (i := 3) rfl (E rfl rfl) (fun hg => z64_get (by omega))) ?_
                  refine AWL.nil ?_
                  refine AWP.one (i := 6) (by kernel_rfl) rfl ?_
                  refine AWL.y rfl rfl (B rfl) (Yv.indexSl (j := (m.1.getD m.2.length 0).toNat) rfl ss_25 (B rfl) (E rfl rfl) (E rfl rfl) (fun hg => ⟨(Int.toNat_of_nonneg (by omega)).symm, by simp only [len_things]; omega⟩)) ?_
                  refine AWL.nil ?_
                  refine AWP.one (i := 7) (by kernel_rfl) rfl ?_
                  refine AWL.y rfl rfl (B rfl) (Yv.loadRpA rfl ag_24 (E rfl rfl) (fun hg => thing_get (by omega))) ?_
                  refine AWL.nil ?_
                  refine AWP.one (i := 9) (by kernel_rfl) rfl ?_
                  refine AWL.storeBox (i := 8) rfl rfl rfl ag_24 rfl (E rfl rfl) (E rfl rfl) rfl rfl (Nat.le_of_ble_eq_true rfl) ?_
                  refine AWL.nil ?_
                  refine AWP.done (by kernel_rfl) ?_
                  exact ⟨b10, trivial, Sub.cons rfl rfl (Sub.cons rfl rfl (Sub.cons rfl rfl (Sub.cons rfl rfl (Sub.cons rfl rfl (Sub.cons rfl rfl (Sub.cons rfl rfl Sub.nil)))))), rfl⟩
              ·
                refine AWL.y rfl rfl (B rfl) (Yv.loadEp rfl ag_2 (i := 3) rfl (E rfl rfl) (fun hg => z64_get (by omega))) ?_
                refine AWL.nil ?_
                refine AWP.two (i := 1) (j := 8) (by kernel_rfl) rfl rfl ?_ ?_
                ·
                  refine AWL.y rfl rfl (B rfl) (Yv.loadBox rfl ag_25 (i := 4) rfl (E rfl rfl) rfl) ?_
                  refine AWL.nil ?_
                  refine AWP.two (i := 6) (j := 8) (by kernel_rfl) rfl rfl ?_ ?_
                  ·
                    refine AWL.y rfl rfl (B rfl) (Yv.indexSl (j := (m.1.getD m.2.length 0).toNat) rfl ss_25 (B rfl) (E rfl rfl) (E rfl rfl) (fun hg => ⟨(Int.toNat_of_nonneg (by omega)).symm, by simp only [len_things]; omega⟩)) ?_
                    refine AWL.nil ?_
                    refine AWP.two (i := 7) (j := 8) (by kernel_rfl) rfl rfl ?_ ?_
                    ·
                      refine AWL.y rfl rfl (B rfl) (Yv.loadRpA rfl ag_24 (E rfl rfl) (fun hg => thing_get (by omega))) ?_
                      refine AWL.nil ?_
                      refine AWP.one (i := 8) (by kernel_rfl) rfl ?_
                      refine AWL.allocOp rfl rfl (B rfl) rfl zc_24 (fun b10 => ?_)
                      refine AWL.nil ?_
                      refine AWP.one (i := 9) (by kernel_rfl) rfl ?_
                      refine AWL.storeBox (i := 8) rfl rfl rfl ag_24 rfl (E rfl rfl) (E rfl rfl) rfl rfl (Nat.le_of_ble_eq_true rfl) ?_
                      refine AWL.nil ?_
                      refine AWP.done (by kernel_rfl) ?_
                      exact ⟨b10, trivial, Sub.cons rfl rfl (Sub.cons rfl rfl (Sub.cons rfl rfl (Sub.cons rfl rfl (Sub.cons rfl rfl (Sub.cons rfl rfl (Sub.cons rfl rfl Sub.nil)))))), rfl⟩
                    ·
                      refine AWL.allocOp rfl rfl (B rfl) rfl zc_24 (fun b10 => ?_)
                      refine AWL.nil ?_
                      refine AWP.one (i := 7) (by kernel_rfl) rfl ?_
                      refine AWL.y rfl rfl (B rfl) (Yv.loadRpA rfl ag_24 (E rfl rfl) (fun hg => thing_get (by omega))) ?_
                      refine AWL.nil ?_
                      refine AWP.one (i := 9) (by kernel_rfl) rfl ?_
                      refine AWL.storeBox (i := 8) rfl rfl rfl ag_24 rfl (E rfl rfl) (E rfl rfl) rfl rfl (Nat.le_of_ble_eq_true rfl) ?_
                      refine AWL.nil ?_
                      refine AWP.done (by kernel_rfl) ?_
                      exact ⟨b10, trivial, Sub.cons rfl rfl (Sub.cons rfl rfl (Sub.cons rfl rfl (Sub.cons rfl rfl (Sub.cons rfl rfl (Sub.cons rfl rfl (Sub.cons rfl rfl Sub.nil)))))), rfl⟩
                  ·
                    refine AWL.allocOp rfl rfl (B rfl) rfl zc_24 (fun b10 => ?_)
                    refine AWL.nil ?_
                    refine AWP.one (i := 6) (by kernel_rfl) rfl ?_
                    refine AWL.y rfl rfl (B rfl) (Yv.indexSl (j := (m.1.getD m.2.length 0).toNat) rfl ss_25 (B rfl) (E rfl rfl) (E rfl rfl) (fun hg => ⟨(Int.toNat_of_nonneg (by omega)).symm, by simp only [len_things]; omega⟩)) ?_
                    refine AWL.nil ?_
                    refine AWP.one (i := 7) (by kernel_rfl) rfl ?_
                    refine AWL.y rfl rfl (B rfl) (Yv.loadRpA rfl ag_24 (E rfl rfl) (fun hg => thing_get (by omega))) ?_
                    refine AWL.nil ?_
                    refine AWP.one (i := 9) (by kernel_rfl) rfl ?_
                    refine AWL.storeBox (i := 8) rfl rfl rfl ag_24 rfl (E rfl rfl) (E rfl rfl) rfl rfl (Nat.le_of_ble_eq_true rfl) ?_
                    refine AWL.nil ?_
                    refine AWP.done (by kernel_rfl) ?_
                    exact ⟨b10, trivial, Sub.cons rfl rfl (Sub.cons rfl rfl (Sub.cons rfl rfl (Sub.cons rfl rfl (Sub.cons rfl rfl (Sub.cons rfl rfl (Sub.cons rfl rfl Sub.nil)))))), rfl⟩
                ·
                  refine AWL.allocOp rfl rfl (B rfl) rfl zc_24 (fun b10 => ?_)
                  refine AWL.nil ?_
                  refine AWP.one (i := 1) (by kernel_rfl) rfl ?_
                  refine AWL.y rfl rfl (B rfl) (Yv.loadBox rfl ag_25 (i := 4) rfl (E rfl rfl) rfl) ?_
                  refine AWL.nil ?_
                  refine AWP.one (i := 6) (by kernel_rfl) rfl ?_
                  refine AWL.y rfl rfl (B rfl) (Yv.indexSl (j := (m.1.getD m.2.length 0).toNat) rfl ss_25 (B rfl) (E rfl rfl) (E rfl rfl) (fun hg => ⟨(Int.toNat_of_nonneg (by omega)).symm, by simp only [len_things]; omega⟩)) ?_
                  refine AWL.nil ?_
                  refine AWP.one (i := 7) (by kernel_rfl) rfl ?_
                  refine AWL.y rfl rfl (B rfl) (Yv.loadRpA rfl ag_24 (E rfl rfl) (fun hg => thing_get (by omega))) ?_
                  refine AWL.nil ?_
                  refine AWP.one (i := 9) (by kernel_rfl) rfl ?_
                  refine AWL.storeBox (i := 8) rfl rfl rfl ag_24 rfl (E rfl rfl) (E rfl rfl) rfl rfl (Nat.le_of_ble_eq_true rfl) ?_
                  refine AWL.nil ?_
                  refine AWP.done (by kernel_rfl) ?_
                  exact ⟨b10, trivial, Sub.cons rfl rfl (Sub.cons rfl rfl (Sub.cons rfl rfl (Sub.cons rfl rfl (Sub.cons rfl rfl (Sub.cons rfl rfl (Sub.cons rfl rfl Sub.nil)))))), rfl⟩
              ·
                refine AWL.allocOp rfl rfl (B rfl) rfl zc_24 (fun b10 => ?_)
                refine AWL.nil ?_
                refine AWP.two (i := 1) (j := 5) (by kernel_rfl) rfl rfl ?_ ?_
                ·
                  refine AWL.y rfl rfl (B rfl) (Yv.loadBox rfl ag_25 (i := 4) rfl (E rfl rfl) rfl) ?_
                  refine AWL.nil ?_
                  refine AWP.one (i := 5) (by kernel_rfl) rfl ?_
                  refine AWL.y rfl rfl (B rfl) (Yv.loadEp rfl ag_2 (i := 3) rfl (E rfl rfl) (fun hg => z64_get (by omega))) ?_
                  refine AWL.nil ?_
                  refine AWP.one (i := 6) (by kernel_rfl) rfl ?_
                  refine AWL.y rfl rfl (B rfl) (Yv.indexSl (j := (m.1.getD m.2.length 0).toNat) rfl ss_25 (B rfl) (E rfl rfl) (E rfl rfl) (fun hg => ⟨(Int.toNat_of_nonneg (by omega)).symm, by simp only [len_things]; omega⟩)) ?_
                  refine AWL.nil ?_
                  refine AWP.one (i := 7) (by kernel_rfl) rfl ?_
                  refine AWL.y rfl rfl (B rfl) (Yv.loadRpA rfl ag_24 (E rfl rfl) (fun hg => thing_get (by omega))) ?_
                  refine AWL.nil ?_
                  refine AWP.one (i := 9) (by kernel_rfl) rfl ?_
                  refine AWL.storeBox (i := 8) rfl rfl rfl ag_24 rfl (E rfl rfl) (E rfl rfl) rfl rfl (Nat.le_of_ble_eq_true rfl) ?_
                  refine AWL.nil ?_
                  refine AWP.done (by kernel_rfl) ?_
                  exact ⟨b10, trivial, Sub.cons rfl rfl (Sub.cons rfl rfl (Sub.cons rfl rfl (Sub.cons rfl rfl (Sub.cons rfl rfl (Sub.cons rfl rfl (Sub.cons rfl rfl Sub.nil)))))), rfl⟩
                ·
                  refine AWL.y rfl rfl (B rfl) (Yv.loadEp rfl ag_2 (i := 3) rfl (E rfl rfl) (fun hg => z64_get (by omega))) ?_
                  refine AWL.nil ?_
                  refine AWP.one (i := 1) (by kernel_rfl) rfl ?_
                  refine AWL.y rfl rfl (B rfl) (Yv.loadBox rfl ag_25 (i := 4) rfl (E rfl rfl) rfl) ?_
                  refine AWL.nil ?_
                  refine AWP.one (i := 6) (by kernel_rfl) rfl ?_
                  refine AWL.y rfl rfl (B rfl) (Yv.indexSl (j := (m.1.getD m.2.length 0).toNat) rfl ss_25 (B rfl) (E rfl rfl) (E rfl rfl) (fun hg => ⟨(Int.toNat_of_nonneg (by omega)).symm, by simp only [len_things]; omega⟩)) ?_
                  refine AWL.nil ?_
                  refine AWP.one (i := 7) (by kernel_rfl) rfl ?_
                  refine AWL.y rfl rfl (B rfl) (Yv.loadRpA rfl ag_24 (E rfl rfl) (fun hg => thing_get (by omega))) ?_
                  refine AWL.nil ?_
                  refine AWP.one (i := 9) (by kernel_rfl) rfl ?_
                  refine AWL.storeBox (i := 8) rfl rfl rfl ag_24 rfl (E rfl rfl) (E rfl rfl) rfl rfl (Nat.le_of_ble_eq_true rfl) ?_
                  refine AWL.nil ?_
                  refine AWP.done (by kernel_rfl) ?_
                  exact ⟨b10, trivial, Sub.cons rfl rfl (Sub.cons rfl rfl (Sub.cons rfl rfl (Sub.cons rfl rfl (Sub.cons rfl rfl (Sub.cons rfl rfl (Sub.cons rfl rfl Sub.nil)))))), rfl⟩
            ·
              refine AWL.allocOp rfl rfl (B rfl) rfl zc_24 (fun b10 => ?_)
              refine AWL.nil ?_
              refine AWP.two (i := 1) (j := 4) (by kernel_rfl) rfl rfl ?_ ?_
              ·
                refine AWL.y rfl rfl (B rfl) (Yv.loadBox rfl ag_25 (i := 4) rfl (E rfl rfl) rfl) ?_
                refine AWL.nil ?_
                refine AWP.one (i := 4) (by kernel_rfl) rfl ?_
                refine AWL.y rfl rfl (B rfl) (Yv.indexRow (j := m.2.length) rfl ss_65 (i := 3) rfl (E rfl rfl) (E rfl rfl) (fun hg => ⟨rfl, by omega⟩)) ?_
                refine AWL.nil ?_
                refine AWP.one (i := 5) (by kernel_rfl) rfl ?_
                refine AWL.y rfl rfl (B rfl) (Yv.loadEp rfl ag_2 (i := 3) rfl (E rfl rfl) (fun hg => z64_get (by omega))) ?_
                refine AWL.nil ?_
                refine AWP.one (i := 6) (by kernel_rfl) rfl ?_
                refine AWL.y rfl rfl (B rfl) (Yv.indexSl (j := (m.1.getD m.2.length 0).toNat) rfl ss_25 (B rfl) (E rfl rfl) (E rfl rfl) (fun hg => ⟨(Int.toNat_of_nonneg (by omega)).symm, by simp only [len_things]; omega⟩)) ?_
                refine AWL.nil ?_
                refine AWP.one (i := 7) (by kernel_rfl) rfl ?_
                refine AWL.y rfl rfl (B rfl) (Yv.loadRpA rfl ag_24 (E rfl rfl) (fun hg => thing_get (by omega))) ?_
                refine AWL.nil ?_
                refine AWP.one (i := 9) (by kernel_rfl) rfl ?_
                refine AWL.storeBox (i := 8) rfl rfl rfl ag_24 rfl (E rfl rfl) (E rfl rfl) rfl rfl (Nat.le_of_ble_eq_true rfl) ?_
                refine AWL.nil ?_
                refine AWP.done (by kernel_rfl) ?_
                exact ⟨b10, trivial, Sub.cons rfl rfl (Sub.cons rfl rfl (Sub.cons rfl rfl (Sub.cons rfl rfl (Sub.cons rfl rfl (Sub.cons rfl rfl (Sub.cons rfl rfl Sub.nil)))))), rfl⟩
              ·
                refine AWL.y rfl rfl (B rfl) (Yv.indexRow (j := m.2.length) rfl ss_65 (i := 3) rfl (E rfl rfl) (E rfl rfl) (fun hg => ⟨rfl, by omega⟩)) ?_
                refine AWL.nil ?_
                refine AWP.two (i := 1) (j := 5) (by kernel_rfl) rfl rfl ?_ ?_
                ·
                  refine AWL.y rfl rfl (B rfl) (Yv.loadBox rfl ag_25 (i := 4) rfl (E rfl rfl) rfl) ?_
                  refine AWL.nil ?_
                  refine AWP.one (i := 5) (by kernel_rfl) rfl ?_
                  refine AWL.y rfl rfl (B rfl) (Yv.loadEp rfl ag_2 (i := 3) rfl (E rfl rfl) (fun hg => z64_get (by omega))) ?_
                  refine AWL.nil ?_
                  refine AWP.one (i := 6) (by kernel_rfl) rfl ?_
                  refine AWL.y rfl rfl (B rfl) (Yv.indexSl (j := (m.1.getD m.2.length 0).toNat) rfl ss_25 (B rfl) (E rfl rfl) (E rfl rfl) (fun hg => ⟨(Int.toNat_of_nonneg (by omega)).symm, by simp only [len_things]; omega⟩)) ?_
                  refine AWL.nil ?_
                  refine AWP.one (i := 7) (by kernel_rfl) rfl ?_
                  refine AWL.y rfl rfl (B rfl) (Yv.loadRpA rfl ag_24 (E rfl rfl) (fun hg => thing_get (by omega))) ?_
                  refine AWL.nil ?_
                  refine AWP.one (i := 9) (by kernel_rfl) rfl ?_
                  refine AWL.storeBox (i := 8) rfl rfl rfl ag_24 rfl (E rfl rfl) (E rfl rfl) rfl rfl (Nat.le_of_ble_eq_true rfl) ?_
                  refine AWL.nil ?_
                  refine AWP.done (by kernel_rfl) ?_
                  exact ⟨b10, trivial, Sub.cons rfl rfl (Sub.cons rfl rfl (Sub.cons rfl rfl (Sub.cons rfl rfl (Sub.cons rfl rfl (Sub.cons rfl rfl (Sub.cons rfl rfl Sub.nil)))))), rfl⟩
                ·
                  refine AWL.y rfl rfl (B rfl) (Yv.loadEp rfl ag_2 (i := 3) rfl (E rfl rfl) (fun hg => z64_get (by omega))) ?_
                  refine AWL.nil ?_
                  refine AWP.one (i := 1) (by kernel_rfl) rfl ?_
                  refine AWL.y rfl rfl (B rfl) (Yv.loadBox rfl ag_25 (i := 4) rfl (E rfl rfl) rfl) ?_
                  refine AWL.nil ?_
                  refine AWP.one (i := 6) (by kernel_rfl) rfl ?_
                  refine AWL.y rfl rfl (B rfl) (Yv.indexSl (j := (m.1.getD m.2.length 0).toNat) rfl ss_25 (B rfl) (E rfl rfl) (E rfl rfl) (fun hg => ⟨(Int.toNat_of_nonneg (by omega)).symm, by simp only [len_things]; omega⟩)) ?_
                  refine AWL.nil ?_
                  refine AWP.one (i := 7) (by kernel_rfl) rfl ?_
                  refine AWL.y rfl rfl (B rfl) (Yv.loadRpA rfl ag_24 (E rfl rfl) (fun hg => thing_get (by omega))) ?_
                  refine AWL.nil ?_
                  refine AWP.one (i := 9) (by kernel_rfl) rfl ?_
                  refine AWL.storeBox (i := 8) rfl rfl rfl ag_24 rfl (E rfl rfl) (E rfl rfl) rfl rfl (Nat.le_of_ble_eq_true rfl) ?_
                  refine AWL.nil ?_
                  refine AWP.done (by kernel_rfl) ?_
                  exact ⟨b10, trivial, Sub.cons rfl rfl (Sub.cons rfl rfl (Sub.cons rfl rfl (Sub.cons rfl rfl (Sub.cons rfl rfl (Sub.cons rfl rfl (Sub.cons rfl rfl Sub.nil)))))), rfl⟩
          ·
            refine AWL.allocOp rfl rfl (B rfl) rfl zc_24 (fun b10 => ?_)
            refine AWL.nil ?_
            refine AWP.two (i := 1) (j := 2) (by kernel_rfl) rfl rfl ?_ ?_
            ·
              refine AWL.y rfl rfl (B rfl) (Yv.loadBox rfl ag_25 (i := 4) rfl (E rfl rfl) rfl) ?_
              refine AWL.nil ?_
              refine AWP.one (i := 2) (by kernel_rfl) rfl ?_
              refine AWL.y rfl rfl (B rfl) (Yv.loadBox rfl ag_65 (i := 2) rfl (E rfl rfl) rfl) ?_
              refine AWL.nil ?_
              refine AWP.one (i := 4) (by kernel_rfl) rfl ?_
              refine AWL.y rfl rfl (B rfl) (Yv.indexRow (j := m.2.length) rfl ss_65 (i := 3) rfl (E rfl rfl) (E rfl rfl) (fun hg => ⟨rfl, by omega⟩)) ?_
              refine AWL.nil ?_
              refine AWP.one (i := 5) (by kernel_rfl) rfl ?_
              refine AWL.y rfl rfl (B rfl) (Yv.loadEp rfl ag_2 (i := 3) rfl (E rfl rfl) (fun hg => z64_get (by omega))) ?_
              refine AWL.nil ?_
              refine AWP.one (i := 6) (by kernel_rfl) rfl ?_
              refine AWL.y rfl rfl (B rfl) (Yv.indexSl (j := (m.1.getD m.2.length 0).toNat) rfl ss_25 (B rfl) (E rfl rfl) (E rfl rfl) (fun hg => ⟨(Int.toNat_of_nonneg (by omega)).symm, by simp only [len_things]; omega⟩)) ?_
              refine AWL.nil ?_
              refine AWP.one (i := 7) (by kernel_rfl) rfl ?_
              refine AWL.y rfl rfl (B rfl) (Yv.loadRpA rfl ag_24 (E rfl rfl) (fun hg => thing_get (by omega))) ?_
              refine AWL.nil ?_
              refine AWP.one (i := 9) (by kernel_rfl) rfl ?_
              refine AWL.storeBox (i := 8) rfl rfl rfl ag_24 rfl (E rfl rfl) (E rfl rfl) rfl rfl (Nat.le_of_ble_eq_true rfl) ?_
              refine AWL.nil ?_
              refine AWP.done (by kernel_rfl) ?_
              exact ⟨b10, trivial, Sub.cons rfl rfl (Sub.cons rfl rfl (Sub.cons rfl rfl (Sub.cons rfl rfl (Sub.cons rfl rfl (Sub.cons rfl rfl (Sub.cons rfl rfl Sub.nil)))))), rfl⟩
            ·
              refine AWL.y rfl rfl (B rfl) (Yv.loadBox rfl ag_65 (i := 2) rfl (E rfl rfl) rfl) ?_
              refine AWL.nil ?_
              refine AWP.two (i := 1) (j := 4) (by kernel_rfl) rfl rfl ?_ ?_
              ·
                refine AWL.y rfl rfl (B rfl) (Yv.loadBox rfl ag_25 (i := 4) rfl (E rfl rfl) rfl) ?_
                refine AWL.nil ?_
                refine AWP.one (i := 4) (by kernel_rfl) rfl ?_
                refine AWL.y rfl rfl (B rfl) (Yv.indexRow (j := m.2.length) rfl ss_65 (i := 3) rfl (E rfl rfl) (E rfl rfl) (fun hg => ⟨rfl, by omega⟩)) ?_
                refine AWL.nil ?_
                refine AWP.one (i := 5) (by kernel_rfl) rfl ?_
                refine AWL.y rfl rfl (B rfl) (Yv.loadEp rfl ag_2 (i := 3) rfl (E rfl rfl) (fun hg => z64_get (by omega))) ?_
                refine AWL.nil ?_
                refine AWP.one (i := 6) (by kernel_rfl) rfl ?_
                refine AWL.y rfl rfl (B rfl) (Yv.indexSl (j := (m.1.getD m.2.length 0).toNat) rfl ss_25 (B rfl) (E rfl rfl) (E rfl rfl) (fun hg => ⟨(Int.toNat_of_nonneg (by omega)).symm, by simp only [len_things]; omega⟩)) ?_
                refine AWL.nil ?_
                refine AWP.one (i := 7) (by kernel_rfl) rfl ?_
                refine AWL.y rfl rfl (B rfl) (Yv.loadRpA rfl ag_24 (E rfl rfl) (fun hg => thing_get (by omega))) ?_
                refine AWL.nil ?_
                refine AWP.one (i := 9) (by kernel_rfl) rfl ?_
                refine AWL.storeBox (i := 8) rfl rfl rfl ag_24 rfl (E rfl rfl) (E rfl rfl) rfl rfl (Nat.le_of_ble_eq_true rfl) ?_
                refine AWL.nil ?_
                refine AWP.done (by kernel_rfl) ?_
                exact ⟨b10, trivial, Sub.cons rfl rfl (Sub.cons rfl rfl (Sub.cons rfl rfl (Sub.cons rfl rfl (Sub.cons rfl rfl (Sub.cons rfl rfl (Sub.cons rfl rfl Sub.nil)))))), rfl⟩
              ·
                refine AWL.y rfl rfl (B rfl) (Yv.indexRow (j := m.2.length) rfl ss_65 (i := 3) rfl (E rfl rfl) (E rfl rfl) (fun hg => ⟨rfl, by omega⟩)) ?_
                refine AWL.nil ?_
                refine AWP.two (i := 1) (j := 5) (by kernel_rfl) rfl rfl ?_ ?_
                ·
                  refine AWL.y rfl rfl (B rfl) (Yv.loadBox rfl ag_25 (i := 4) rfl (E rfl rfl) rfl) ?_
                  refine AWL.nil ?_
                  refine AWP.one (i := 5) (by kernel_rfl) rfl ?_
                  refine AWL.y rfl rfl (B rfl) (Yv.loadEp rfl ag_2 (i := 3) rfl (E rfl rfl) (fun hg => z64_get (by omega))) ?_
                  refine AWL.nil ?_
                  refine AWP.one (i := 6) (by kernel_rfl) rfl ?_
                  refine AWL.y rfl rfl (B rfl) (Yv.indexSl (j := (m.1.getD m.2.length 0).toNat) rfl ss_25 (B rfl) (E rfl rfl) (E rfl rfl) (fun hg => ⟨(Int.toNat_of_nonneg (by omega)).symm, by simp only [len_things]; omega⟩)) ?_
                  refine AWL.nil ?_
                  refine AWP.one (i := 7) (by kernel_rfl) rfl ?_
                  refine AWL.y rfl rfl (B rfl) (Yv.loadRpA rfl ag_24 (E rfl rfl) (fun hg => thing_get (by omega))) ?_
                  refine AWL.nil ?_
                  refine AWP.one (i := 9) (by kernel_rfl) rfl ?_
                  refine AWL.storeBox (i := 8) rfl rfl rfl ag_24 rfl (E rfl rfl) (E rfl rfl) rfl rfl (Nat.le_of_ble_eq_true rfl) ?_
                  refine AWL.nil ?_
                  refine AWP.done (by kernel_rfl) ?_
                  exact ⟨b10, trivial, Sub.cons rfl rfl (Sub.cons rfl rfl (Sub.cons rfl rfl (Sub.cons rfl rfl (Sub.cons rfl rfl (Sub.cons rfl rfl (Sub.cons rfl rfl Sub.nil)))))), rfl⟩
                ·
                  refine AWL.y rfl rfl (B rfl) (Yv.loadEp rfl ag_2 (i := 3) rfl (E rfl rfl) (fun hg => z64_get (by omega))) ?_
                  refine AWL.nil ?_
                  refine AWP.one (i := 1) (by kernel_rfl) rfl ?_
                  refine AWL.y rfl rfl (B rfl) (Yv.loadBox rfl ag_25 (i := 4) rfl (E rfl rfl) rfl) ?_
                  refine AWL.nil ?_
                  refine AWP.one (i := 6) (by kernel_rfl) rfl ?_
                  refine AWL.y rfl rfl (B rfl) (Yv.indexSl (j := (m.1.getD m.2.length 0).toNat) rfl ss_25 (B rfl) (E rfl rfl) (E rfl rfl) (fun hg => ⟨(Int.toNat_of_nonneg (by omega)).symm, by simp only [len_things]; omega⟩)) ?_
                  refine AWL.nil ?_
                  refine AWP.one (i := 7) (by kernel_rfl) rfl ?_
                  refine AWL.y rfl rfl (B rfl) (Yv.loadRpA rfl ag_24 (E rfl rfl) (fun hg => thing_get (by omega))) ?_
                  refine AWL.nil ?_
                  refine AWP.one (i := 9) (by kernel_rfl) rfl ?_
                  refine AWL.storeBox (i := 8) rfl rfl rfl ag_24 rfl (E rfl rfl) (E rfl rfl) rfl rfl (Nat.le_of_ble_eq_true rfl) ?_
                  refine AWL.nil ?_
                  refine AWP.done (by kernel_rfl) ?_
                  exact ⟨b10, trivial, Sub.cons rfl rfl (Sub.cons rfl rfl (Sub.cons rfl rfl (Sub.cons rfl rfl (Sub.cons rfl rfl (Sub.cons rfl rfl (Sub.cons rfl rfl Sub.nil)))))), rfl⟩
        ·
          rintro b10 hmid
          refine AW.rseq ?_
          refine AWL.y rfl rfl (B rfl) (Yv.move rfl (E rfl rfl)) ?_
          refine AWL.y rfl rfl (B rfl) (Yv.fieldBox rfl fo_24_3 (E rfl rfl)) ?_
          refine AWL.y rfl rfl (B rfl) (Yv.loadBox rfl ag_22 (i := 8) rfl (E rfl rfl) rfl) ?_
          refine AWL.call rfl rfl (B rfl) rfl ce_42 (E rfl rfl) (evsC (E rfl rfl) evs0) (S1 := (CS b5 b17 b6 A1 c1 m.1)) (S2 := _) rfl (met42 (g.things.getD (m.1.getD m.2.length 0).toNat default).refs m.1 b5 b17 b6 A1 c1 hzt.rl (by omega)) ?_
          rintro t41 S41 ⟨rfl, A2, c2, rfl⟩
          refine AWL.y rfl rfl (B rfl) (Yv.fieldBox rfl fo_24_3 (E rfl rfl)) ?_
          refine AWL.storeBox (i := 8) rfl rfl rfl ag_22 rfl (E rfl rfl) (E rfl rfl) rfl rfl (Nat.le_of_ble_eq_true rfl) ?_
          refine AWL.nil ?_
          refine AW.region ?_
          refine AWL.y rfl rfl (B rfl) (Yv.fieldBox rfl fo_27_0 (E rfl rfl)) ?_
          refine AWL.y rfl rfl (B rfl) (Yv.loadBox rfl ag_25 (i := 6) rfl (E rfl rfl) rfl) ?_
          refine AWL.y rfl rfl (B rfl) (Yv.loadBoxA rfl ag_24 (i := 8) rfl (E rfl rfl) rfl rfl) ?_
          refine AWL.buildSliceE rfl rfl (B rfl) rfl el_25 (B rfl) rfl (evsC (E rfl rfl) evs0) (Nat.le_of_ble_eq_true rfl) rfl rfl ?_
          refine AWL.appendRow (i := 7) rfl rfl (B rfl) rfl el_25 (B rfl) rfl (E rfl rfl) (SrcT.sl so_25 (B rfl) (E rfl rfl) rfl) (by unfold maxLen; omega) (by omega) (fun A47 c47 => ?_)
          refine AWL.y rfl rfl (B rfl) (Yv.fieldBox rfl fo_27_0 (E rfl rfl)) ?_
          refine AWL.storeBox (i := 6) rfl rfl rfl ag_25 rfl (E rfl rfl) (E rfl rfl) rfl rfl (Nat.le_of_ble_eq_true rfl) ?_
          refine AWL.nil ?_
          refine AW.dropAt 8 ?_
          refine AW.region ?_
          refine AWL.y rfl rfl (B rfl) (Yv.move rfl (E rfl rfl)) ?_
          refine AWL.y rfl rfl (B rfl) (Yv.addN_i64 rfl (E rfl rfl) (E rfl rfl) (fun hg => by omega)) ?_
          refine AWL.y rfl rfl (B rfl) (Yv.assign rfl (E rfl rfl)) ?_
          refine AWL.nil ?_
          refine ⟨((metF m.1 (g.things.getD (m.1.getD m.2.length 0).toNat default).refs).1, m.2 ++ [reR (g.things.getD (m.1.getD m.2.length 0).toNat default) (metF m.1 (g.things.getD (m.1.getD m.2.length 0).toNat default).refs).2]), A2, c2, A47, c47, ⟨?_, ?_, ?_⟩, ?_, ?_, ?_⟩
          · rw [hcn, show g.things.length - m.2.length = (g.things.length - (m.2 ++ [reR (g.things.getD (m.1.getD m.2.length 0).toNat default) (metF m.1 (g.things.getD (m.1.getD m.2.length 0).toNat default).refs).2]).length) + 1 by rw [List.length_append, List.length_singleton]; omega, canonS_step (by omega)]
          · exact metF_ok hok (check_thing hck _ (getD_mem' (by omega))).2
          · have := metF_row0 (g.things.getD (m.1.getD m.2.length 0).toNat default).refs m.1
            rw [List.length_append, List.length_singleton]; show m.2.length + 1 ≤ (metF m.1 (g.things.getD (m.1.getD m.2.length 0).toNat default).refs).1.length; omega
          · rw [List.length_append, List.length_singleton]; omega
          · exact (Sub.cons rfl rfl (Sub.cons rfl rfl (Sub.cons rfl rfl (Sub.cons rfl rfl (Sub.cons rfl rfl (Sub.cons rfl (by simp) Sub.nil))))))
          · simp only [thing_flat, List.length_append, List.length_singleton]
            rfl
      ·
        try replace h1f := of_decide_eq_false h1f
        refine AW.exit ?_
        refine AW.freezeCell 7 6 0 rfl (by decide) rfl rfl ?_
        refine AW.rseq ?_
        refine AWL.y rfl rfl (B rfl) (Yv.loadBoxA rfl ag_27 (i := 6) rfl (E rfl rfl) rfl rfl) ?_
        refine AWL.storeBox (i := 5) rfl rfl rfl ag_27 rfl (E rfl rfl) (E rfl rfl) rfl rfl (Nat.le_of_ble_eq_true rfl) ?_
        refine AWL.y rfl rfl (B rfl) (Yv.assign rfl (E rfl rfl)) ?_
        refine AWL.nil ?_
        refine AW.ret (retI (.cellA (i := 5) rfl ag_27 rfl rfl rfl (.tmp rfl .nil)) ?_)
        have e1 : canonS g g.things.length (metF [] g.roots).1 [] = (m.1, m.2) := (by rw [hcn, canonS_end (by omega)])
        have e2 : canonG g = ⟨m.2, (metF [] g.roots).2⟩ := (by rw [canonG, if_pos hck, canonF, e1])
        rw [h0f, e2]
        rfl

end Go.Proofs.Ytbndnmmceccbkaa
