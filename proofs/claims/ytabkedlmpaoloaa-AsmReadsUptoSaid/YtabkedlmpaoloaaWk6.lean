/-
  CONTRACTS of the asm package: begun; walked by program.
-/
import Derived.Test.YtabkedlmpaoloaaWk5
namespace Go.Proofs.Ytabkedlmpaoloaa
open Go Go.RowKit
set_option linter.unusedVariables false
set_option linter.unnecessarySimpa false
set_option linter.unusedSimpArgs false

set_option maxHeartbeats 2000000 in
theorem begun43 (l : List Line) (hl : l.length ≤ NL) (hck : checkF l = 0) :
    ACalls Try.prog 43 [linesT l] [] (fun t_ S => ∃ b A1 A2, t_ = .v (.pointer (some ⟨b, 0, none⟩)) ∧ S = LB b l A1 A2 (l.map size0) (tgF l)) := by
  have hnl : l.length ≤ 1099511627 := hl
  unfold NL at hl
  refine ACalls.intro Try.func43 rfl Try.ntmps43 (Nat.le_of_ble_eq_true rfl) rfl fun X w0 => ?_
  refine AW.rseq ?_
  refine AWL.y rfl rfl (B rfl) (Yv.assign rfl (E rfl rfl)) ?_
  refine AWL.nil ?_
  refine AW.mid (α := Nat × Option Addr × Option Addr) (fun q => [(0, true, linesT l), (3, true, .v (.pointer (some ⟨q.1, 0, none⟩)))]) (fun q => LB q.1 l q.2.1 q.2.2 (fillN size0 l 0) (fillN (tgt0 (labM l)) l 0)) (fun _ => True) ?_ ?_
  ·
   refine AW.regionP rfl ?_
   refine AWP.take (i := 0) rfl (by kernel_rfl) (by kernel_rfl) (by kernel_rfl) rfl rfl (B rfl) (freeMove rfl (E rfl rfl)) ?_
   refine AWP.take (i := 1) rfl (by kernel_rfl) (by kernel_rfl) (by kernel_rfl) rfl rfl (B rfl) (freeMove rfl (E rfl rfl)) ?_
   refine AWP.take (i := 2) rfl (by kernel_rfl) (by kernel_rfl) (by kernel_rfl) rfl rfl (B rfl) (freeLen rfl so_22 (B rfl) (E rfl rfl) len_lines) ?_
   refine AWP.take (i := 4) rfl (by kernel_rfl) (by kernel_rfl) (by kernel_rfl) rfl rfl (B rfl) (freeMove rfl (E rfl rfl)) ?_
   refine AWP.take (i := 5) rfl (by kernel_rfl) (by kernel_rfl) (by kernel_rfl) rfl rfl (B rfl) (freeLen rfl so_22 (B rfl) (E rfl rfl) len_lines) ?_
   refine AWP.two (i := 3) (j := 6) (by kernel_rfl) rfl rfl ?_ ?_
   ·
    refine AWL.makeRow (n := l.length) (c := l.length) rfl rfl (B rfl) rfl el_37 (E rfl rfl) (E rfl rfl) (by omega) (by omega) (by unfold maxLen; omega) (fun A14 => ?_)
    refine AWL.nil ?_
    refine AWP.one (i := 6) (by kernel_rfl) rfl ?_
    refine AWL.makeRow (n := l.length) (c := l.length) rfl rfl (B rfl) rfl el_51 (E rfl rfl) (E rfl rfl) (by omega) (by omega) (by unfold maxLen; omega) (fun A17 => ?_)
    refine AWL.nil ?_
    refine AWP.one (i := 7) (by kernel_rfl) rfl ?_
    refine AWL.y rfl rfl (B rfl) (Yv.buildS rfl sh_53 (evpC (E rfl rfl) (evpC (E rfl rfl) (evpC (E rfl rfl) evp0))) (fun _ => rfl)) ?_
    refine AWL.nil ?_
    refine AWP.one (i := 8) (by kernel_rfl) rfl ?_
    refine AWL.boxOp rfl rfl (B rfl) rfl (E rfl rfl) rfl (fun b19 => ?_)
    refine AWL.perm (S' := [.box b19 53 [linesT l, .v (.slice A14 l.length l.length), .v (.slice A17 l.length l.length)], .row A14 l.length l.length 23 1 (List.replicate l.length (List.map T.v [.int .u64 0])).flatten, .row A17 l.length l.length 3 1 (List.replicate l.length (List.map T.v [.int .i64 0])).flatten]) (by first | exact List.perm_append_comm (l₁ := [_]) (l₂ := [_, _]) | exact List.reverse_perm [_, _, _]) ?_
    refine AWL.nil ?_
    refine AWP.one (i := 9) (by kernel_rfl) rfl ?_
    refine AWL.y rfl rfl (B rfl) (Yv.assign rfl (E rfl rfl)) ?_
    refine AWL.nil ?_
    refine AWP.done (by kernel_rfl) ?_
    refine ⟨⟨b19, A14, A17⟩, trivial, (Sub.cons rfl rfl (Sub.cons rfl rfl Sub.nil)), ?_⟩
    rw [flat_rep, flat_rep, fill_zero, fill_zero, LB, List.map_replicate, List.map_replicate]
    rfl
   ·
    refine AWL.makeRow (n := l.length) (c := l.length) rfl rfl (B rfl) rfl el_51 (E rfl rfl) (E rfl rfl) (by omega) (by omega) (by unfold maxLen; omega) (fun A17 => ?_)
    refine AWL.nil ?_
    refine AWP.one (i := 3) (by kernel_rfl) rfl ?_
    refine AWL.makeRow (n := l.length) (c := l.length) rfl rfl (B rfl) rfl el_37 (E rfl rfl) (E rfl rfl) (by omega) (by omega) (by unfold maxLen; omega) (fun A14 => ?_)
    refine AWL.nil ?_
    refine AWP.one (i := 7) (by kernel_rfl) rfl ?_
    refine AWL.y rfl rfl (B rfl) (Yv.buildS rfl sh_53 (evpC (E rfl rfl) (evpC (E rfl rfl) (evpC (E rfl rfl) evp0))) (fun _ => rfl)) ?_
    refine AWL.nil ?_
    refine AWP.one (i := 8) (by kernel_rfl) rfl ?_
    refine AWL.boxOp rfl rfl (B rfl) rfl (E rfl rfl) rfl (fun b19 => ?_)
    refine AWL.perm (S' := [.box b19 53 [linesT l, .v (.slice A14 l.length l.length), .v (.slice A17 l.length l.length)], .row A14 l.length l.length 23 1 (List.replicate l.length (List.map T.v [.int .u64 0])).flatten, .row A17 l.length l.length 3 1 (List.replicate l.length (List.map T.v [.int .i64 0])).flatten]) (by first | exact List.perm_append_comm (l₁ := [_]) (l₂ := [_, _]) | exact List.reverse_perm [_, _, _]) ?_
    refine AWL.nil ?_
    refine AWP.one (i := 9) (by kernel_rfl) rfl ?_
    refine AWL.y rfl rfl (B rfl) (Yv.assign rfl (E rfl rfl)) ?_
    refine AWL.nil ?_
    refine AWP.done (by kernel_rfl) ?_
    refine ⟨⟨b19, A14, A17⟩, trivial, (Sub.cons rfl rfl (Sub.cons rfl rfl Sub.nil)), ?_⟩
    rw [flat_rep, flat_rep, fill_zero, fill_zero, LB, List.map_replicate, List.map_replicate]
    rfl
  ·
   rintro ⟨b3, A1, A2⟩ hmid
   refine AW.rseq ?_
   refine AWL.makeMapOp rfl rfl (B rfl) rfl (fun b20 => ?_)
   refine AWL.y rfl rfl (B rfl) (Yv.assign rfl (E rfl rfl)) ?_
   refine AWL.nil ?_
   refine AW.seq ?_
   refine AW.rseq ?_
   refine AWL.y rfl rfl (B rfl) (Yv.move rfl (E rfl rfl)) ?_
   refine AWL.y rfl rfl (B rfl) (Yv.lenSl rfl so_22 (B rfl) (E rfl rfl) len_lines) ?_
   refine AWL.y rfl rfl (B rfl) (Yv.move rfl (E rfl rfl)) ?_
   refine AWL.nil ?_
   refine AW.block ?_
   refine AW.loop (fun (j : Nat) => [(0, true, linesT l), (3, true, .v (.pointer (some ⟨b3, 0, none⟩))), (4, true, .v (.map (some b20))), (21, true, linesT l), (22, true, .v (.int .i64 (l.length : Int))), (23, true, .v (.int .i64 (j : Int)))]) (fun (j : Nat) => (LB b3 l A1 A2 (fillN size0 l 0) (fillN (tgt0 (labM l)) l 0) ++ [.map b20 (mE (labM (l.take j)))])) (fun (j : Nat) => j ≤ l.length) (fun (j : Nat) => l.length - j) 0 ?_ ?_ ?_ ?_
   · exact Nat.zero_le _
   · exact (Sub.cons rfl rfl (Sub.cons rfl rfl (Sub.cons rfl rfl (Sub.cons rfl rfl (Sub.cons rfl rfl (Sub.cons rfl rfl Sub.nil))))))
   · rfl
   ·
    intro j hinv
    refine AW.rseq ?_
    refine AWL.y rfl rfl (B rfl) (Yv.lss rfl (E rfl rfl) (E rfl rfl)) ?_
    refine AWL.nil ?_
    refine AW.seq ?_
    refine AW.cond rfl (fun h0t => ?_) (fun h0f => ?_)
    ·
     try replace h0t := of_decide_eq_true h0t
     refine AW.skip ?_
     refine AW.seq ?_
     refine AW.block ?_
     refine AW.rseq ?_
     refine AWL.y rfl rfl (B rfl) (Yv.move rfl (E rfl rfl)) ?_
     refine AWL.y rfl rfl (B rfl) (Yv.indexSl rfl ss_22 (B rfl) (E rfl rfl) (E rfl rfl) (fun hg => ⟨rfl, (by first | omega | (simp only [len_lines, len_inss, len_zu, len_ints, len_u8s]; omega))⟩)) ?_
     refine AWL.y rfl rfl (B rfl) (Yv.loadRpA rfl ag_32 (E rfl rfl) (fun hg => line_get (by omega))) ?_
     refine AWL.allocOp rfl rfl (B rfl) rfl zc_32 (fun b6 => ?_)
     refine AWL.y rfl rfl (B rfl) (Yv.assign rfl (E rfl rfl)) ?_
     refine AWL.storeBox (i := 4) rfl rfl rfl ag_32 rfl (E rfl rfl) (E rfl rfl) rfl rfl (Nat.le_of_ble_eq_true rfl) ?_
     refine AWL.nil ?_
     refine AW.rseq ?_
     refine AWL.y rfl rfl (B rfl) (Yv.fieldBox rfl fo_32_0 (E rfl rfl)) ?_
     refine AWL.y rfl rfl (B rfl) (Yv.loadBox rfl ag_3 (i := 4) rfl (E rfl rfl) rfl) ?_
     refine AWL.y rfl rfl (B rfl) (Yv.eql rfl (E rfl rfl) (E rfl rfl)) ?_
     refine AWL.nil ?_
     refine AW.cond rfl (fun h1t => ?_) (fun h1f => ?_)
     ·
      try replace h1t := of_decide_eq_true h1t
      refine AW.region ?_
      refine AWL.y rfl rfl (B rfl) (Yv.move rfl (E rfl rfl)) ?_
      refine AWL.y rfl rfl (B rfl) (Yv.fieldBox rfl fo_32_2 (E rfl rfl)) ?_
      refine AWL.y rfl rfl (B rfl) (Yv.loadBox rfl ag_3 (i := 4) rfl (E rfl rfl) rfl) ?_
      refine AWL.y rfl rfl (B rfl) (Yv.move rfl (E rfl rfl)) ?_
      refine AWL.mapUpd (k := .i _ _) (i := 3) rfl rfl (.inl rfl) mp_61 rfl (E rfl rfl) (E rfl rfl) (E rfl rfl) rfl rfl (mE_good _) ?_
      refine AWL.nil ?_
      refine AW.dropAt 4 ?_
      refine AW.region ?_
      refine AWL.y rfl rfl (B rfl) (Yv.addN_i64 rfl (E rfl rfl) (E rfl rfl) (fun hg => by omega)) ?_
      refine AWL.y rfl rfl (B rfl) (Yv.move rfl (E rfl rfl)) ?_
      refine AWL.nil ?_
      refine ⟨j + 1, by omega, by omega, Sub.cons rfl rfl (Sub.cons rfl rfl (Sub.cons rfl rfl (Sub.cons rfl rfl (Sub.cons rfl rfl (Sub.cons rfl (by simp) Sub.nil))))), ?_⟩
      rw [labM_take (by omega), if_pos (by assumption), ← putK_mE]
      rfl
     try replace h1f := of_decide_eq_false h1f
     refine AW.skip ?_
     refine AW.dropAt 4 ?_
     refine AW.region ?_
     refine AWL.y rfl rfl (B rfl) (Yv.addN_i64 rfl (E rfl rfl) (E rfl rfl) (fun hg => by omega)) ?_
     refine AWL.y rfl rfl (B rfl) (Yv.move rfl (E rfl rfl)) ?_
     refine AWL.nil ?_
     refine ⟨j + 1, by omega, by omega, Sub.cons rfl rfl (Sub.cons rfl rfl (Sub.cons rfl rfl (Sub.cons rfl rfl (Sub.cons rfl rfl (Sub.cons rfl (by simp) Sub.nil))))), ?_⟩
     rw [labM_take (by omega), if_neg (by assumption)]
     rfl
    try replace h0f := of_decide_eq_false h0f
    refine AW.exit ?_
    refine AW.seq ?_
    obtain rfl : j = l.length := by omega
    rw [List.take_length]
    refine AW.rseq ?_
    refine AWL.y rfl rfl (B rfl) (Yv.move rfl (E rfl rfl)) ?_
    refine AWL.y rfl rfl (B rfl) (Yv.lenSl rfl so_22 (B rfl) (E rfl rfl) len_lines) ?_
    refine AWL.y rfl rfl (B rfl) (Yv.move rfl (E rfl rfl)) ?_
    refine AWL.nil ?_
    refine AW.block ?_
    refine AW.loop (fun (j : Nat) => [(0, true, linesT l), (3, true, .v (.pointer (some ⟨b3, 0, none⟩))), (4, true, .v (.map (some b20))), (36, true, linesT l), (37, true, .v (.int .i64 (l.length : Int))), (38, true, .v (.int .i64 (j : Int)))]) (fun (j : Nat) => (LB b3 l A1 A2 (fillN size0 l j) (fillN (tgt0 (labM l)) l j) ++ [.map b20 (mE (labM l))])) (fun (j : Nat) => j ≤ l.length) (fun (j : Nat) => l.length - j) 0 ?_ ?_ ?_ ?_
    · exact Nat.zero_le _
    · exact (Sub.cons rfl rfl (Sub.cons rfl rfl (Sub.cons rfl rfl (Sub.cons rfl rfl (Sub.cons rfl rfl (Sub.cons rfl rfl Sub.nil))))))
    · rfl
    ·
     intro j hinv
     have henc := encF_len (l.getD j default).ins
     refine AW.rseq ?_
     refine AWL.y rfl rfl (B rfl) (Yv.lss rfl (E rfl rfl) (E rfl rfl)) ?_
     refine AWL.nil ?_
     refine AW.seq ?_
     refine AW.cond rfl (fun h2t => ?_) (fun h2f => ?_)
     ·
      try replace h2t := of_decide_eq_true h2t
      refine AW.skip ?_
      refine AW.seq ?_
      refine AW.block ?_
      refine AW.rseq ?_
      refine AWL.y rfl rfl (B rfl) (Yv.move rfl (E rfl rfl)) ?_
      refine AWL.y rfl rfl (B rfl) (Yv.indexSl rfl ss_22 (B rfl) (E rfl rfl) (E rfl rfl) (fun hg => ⟨rfl, (by first | omega | (simp only [len_lines, len_inss, len_zu, len_ints, len_u8s]; omega))⟩)) ?_
      refine AWL.y rfl rfl (B rfl) (Yv.loadRpA rfl ag_32 (E rfl rfl) (fun hg => line_get (by omega))) ?_
      refine AWL.allocOp rfl rfl (B rfl) rfl zc_32 (fun b8 => ?_)
      refine AWL.y rfl rfl (B rfl) (Yv.assign rfl (E rfl rfl)) ?_
      refine AWL.storeBox (i := 4) rfl rfl rfl ag_32 rfl (E rfl rfl) (E rfl rfl) rfl rfl (Nat.le_of_ble_eq_true rfl) ?_
      refine AWL.nil ?_
      refine AW.mid (α := Unit) (fun _ => [(0, true, linesT l), (3, true, .v (.pointer (some ⟨b3, 0, none⟩))), (4, true, .v (.map (some b20))), (36, true, linesT l), (37, true, .v (.int .i64 (l.length : Int))), (38, true, .v (.int .i64 (j : Int))), (7, true, .v (.int .i64 (j : Int))), (8, true, .v (.pointer (some ⟨b8, 0, none⟩)))]) (fun _ => LB b3 l A1 A2 (fillN size0 l j) (fillN (tgt0 (labM l)) l (j + 1)) ++ [.map b20 (mE (labM l)), .box b8 32 (lineCells (l.getD j default))]) (fun _ => True) ?_ ?_
      ·
       refine AW.rseq ?_
       refine AWL.y rfl rfl (B rfl) (Yv.fieldBox rfl fo_32_0 (E rfl rfl)) ?_
       refine AWL.y rfl rfl (B rfl) (Yv.loadBox rfl ag_3 (i := 4) rfl (E rfl rfl) rfl) ?_
       refine AWL.callP rfl rfl (B rfl) rfl ce_28 (E rfl rfl) (evsC (E rfl rfl) evs0) (goes28 (l.getD j default).kind) (fun t S h => h) ?_
       refine AWL.nil ?_
       refine AW.cond rfl (fun h3t => ?_) (fun h3f => ?_)
       ·
        try replace h3t := of_decide_eq_true h3t
        refine AW.regionP rfl ?_
        refine AWP.take (i := 0) rfl (by kernel_rfl) (by kernel_rfl) (by kernel_rfl) rfl rfl (B rfl) (freeMove rfl (E rfl rfl)) ?_
        refine AWP.take (i := 1) rfl (by kernel_rfl) (by kernel_rfl) (by kernel_rfl) rfl rfl (B rfl) (freeNil rfl (E rfl rfl)) ?_
        refine AWP.take (i := 2) rfl (by kernel_rfl) (by kernel_rfl) (by kernel_rfl) rfl rfl (B rfl) (freeField rfl fo_53_2 (E rfl rfl)) ?_
        refine AWP.take (i := 4) rfl (by kernel_rfl) (by kernel_rfl) (by kernel_rfl) rfl rfl (B rfl) (freeMove rfl (E rfl rfl)) ?_
        refine AWP.take (i := 5) rfl (by kernel_rfl) (by kernel_rfl) (by kernel_rfl) rfl rfl (B rfl) (freeMove rfl (E rfl rfl)) ?_
        refine AWP.take (i := 6) rfl (by kernel_rfl) (by kernel_rfl) (by kernel_rfl) rfl rfl (B rfl) (freeField rfl fo_32_2 (E rfl rfl)) ?_
        refine AWP.two (i := 3) (j := 7) (by kernel_rfl) rfl rfl ?_ ?_
        ·
         refine AWL.y rfl rfl (B rfl) (Yv.loadBox rfl ag_51 (i := 0) rfl (E rfl rfl) rfl) ?_
         refine AWL.nil ?_
         refine AWP.one (i := 7) (by kernel_rfl) rfl ?_
         refine AWL.y rfl rfl (B rfl) (Yv.loadBox rfl ag_3 (i := 4) rfl (E rfl rfl) rfl) ?_
         refine AWL.nil ?_
         refine AWP.one (i := 8) (by kernel_rfl) rfl ?_
         refine AWL.y rfl rfl (B rfl) (Yv.lookup1 (k := .i _ _) (i := 3) rfl mp_61 rfl (E rfl rfl) (E rfl rfl) rfl (mE_good _)) ?_
         rw [look_mE]
         refine AWL.nil ?_
         refine AWP.one (i := 9) (by kernel_rfl) rfl ?_
         refine AWL.y rfl rfl (B rfl) (Yv.indexRow rfl ss_51 (i := 2) rfl (E rfl rfl) (E rfl rfl) (fun hg => ⟨rfl, by omega⟩)) ?_
         refine AWL.nil ?_
         refine AWP.one (i := 10) (by kernel_rfl) rfl ?_
         refine AWL.storeEp1 (i := 2) rfl rfl rfl ag_3 rfl (E rfl rfl) (E rfl rfl) rfl rfl (by rw [List.length_map, fill_len (by omega)]; omega) ?_
         refine AWL.nil ?_
         refine AWP.done (by kernel_rfl) ?_
         refine ⟨(), trivial, (Sub.cons rfl rfl (Sub.cons rfl rfl (Sub.cons rfl rfl (Sub.cons rfl rfl (Sub.cons rfl rfl (Sub.cons rfl rfl (Sub.cons rfl rfl (Sub.cons rfl rfl Sub.nil)))))))), ?_⟩
         unfold LB
         rw [← fill_setI (f := tgt0 (labM l)) (v := lookN (l.getD j default).l (labM l)) (by omega : j < l.length) (by rw [tgt0, if_pos h3t])]
         rfl
        ·
         refine AWL.y rfl rfl (B rfl) (Yv.loadBox rfl ag_3 (i := 4) rfl (E rfl rfl) rfl) ?_
         refine AWL.nil ?_
         refine AWP.two (i := 3) (j := 8) (by kernel_rfl) rfl rfl ?_ ?_
         ·
          refine AWL.y rfl rfl (B rfl) (Yv.loadBox rfl ag_51 (i := 0) rfl (E rfl rfl) rfl) ?_
          refine AWL.nil ?_
          refine AWP.one (i := 8) (by kernel_rfl) rfl ?_
          refine AWL.y rfl rfl (B rfl) (Yv.lookup1 (k := .i _ _) (i := 3) rfl mp_61 rfl (E rfl rfl) (E rfl rfl) rfl (mE_good _)) ?_
          rw [look_mE]
          refine AWL.nil ?_
          refine AWP.one (i := 9) (by kernel_rfl) rfl ?_
          refine AWL.y rfl rfl (B rfl) (Yv.indexRow rfl ss_51 (i := 2) rfl (E rfl rfl) (E rfl rfl) (fun hg => ⟨rfl, by omega⟩)) ?_
          refine AWL.nil ?_
          refine AWP.one (i := 10) (by kernel_rfl) rfl ?_
          refine AWL.storeEp1 (i := 2) rfl rfl rfl ag_3 rfl (E rfl rfl) (E rfl rfl) rfl rfl (by rw [List.length_map, fill_len (by omega)]; omega) ?_
          refine AWL.nil ?_
          refine AWP.done (by kernel_rfl) ?_
          refine ⟨(), trivial, (Sub.cons rfl rfl (Sub.cons rfl rfl (Sub.cons rfl rfl (Sub.cons rfl rfl (Sub.cons rfl rfl (Sub.cons rfl rfl (Sub.cons rfl rfl (Sub.cons rfl rfl Sub.nil)))))))), ?_⟩
          unfold LB
          rw [← fill_setI (f := tgt0 (labM l)) (v := lookN (l.getD j default).l (labM l)) (by omega : j < l.length) (by rw [tgt0, if_pos h3t])]
          rfl
         ·
          refine AWL.y rfl rfl (B rfl) (Yv.lookup1 (k := .i _ _) (i := 3) rfl mp_61 rfl (E rfl rfl) (E rfl rfl) rfl (mE_good _)) ?_
          rw [look_mE]
          refine AWL.nil ?_
          refine AWP.one (i := 3) (by kernel_rfl) rfl ?_
          refine AWL.y rfl rfl (B rfl) (Yv.loadBox rfl ag_51 (i := 0) rfl (E rfl rfl) rfl) ?_
          refine AWL.nil ?_
          refine AWP.one (i := 9) (by kernel_rfl) rfl ?_
          refine AWL.y rfl rfl (B rfl) (Yv.indexRow rfl ss_51 (i := 2) rfl (E rfl rfl) (E rfl rfl) (fun hg => ⟨rfl, by omega⟩)) ?_
          refine AWL.nil ?_
          refine AWP.one (i := 10) (by kernel_rfl) rfl ?_
          refine AWL.storeEp1 (i := 2) rfl rfl rfl ag_3 rfl (E rfl rfl) (E rfl rfl) rfl rfl (by rw [List.length_map, fill_len (by omega)]; omega) ?_
          refine AWL.nil ?_
          refine AWP.done (by kernel_rfl) ?_
          refine ⟨(), trivial, (Sub.cons rfl rfl (Sub.cons rfl rfl (Sub.cons rfl rfl (Sub.cons rfl rfl (Sub.cons rfl rfl (Sub.cons rfl rfl (Sub.cons rfl rfl (Sub.cons rfl rfl Sub.nil)))))))), ?_⟩
          unfold LB
          rw [← fill_setI (f := tgt0 (labM l)) (v := lookN (l.getD j default).l (labM l)) (by omega : j < l.length) (by rw [tgt0, if_pos h3t])]
          rfl
       try replace h3f := of_decide_eq_false h3f
       refine AW.skip ?_
       refine ⟨(), trivial, (Sub.cons rfl rfl (Sub.cons rfl rfl (Sub.cons rfl rfl (Sub.cons rfl rfl (Sub.cons rfl rfl (Sub.cons rfl rfl (Sub.cons rfl rfl (Sub.cons rfl rfl Sub.nil)))))))), ?_⟩
       unfold LB
       rw [← fill_same (f := tgt0 (labM l)) (by omega : j < l.length) (by rw [tgt0, if_neg (by rw [h3f]; decide)])]
       rfl
      ·
       rintro _ hmid
       refine AW.rseq ?_
       refine AWL.y rfl rfl (B rfl) (Yv.fieldBox rfl fo_32_0 (E rfl rfl)) ?_
       refine AWL.y rfl rfl (B rfl) (Yv.loadBox rfl ag_3 (i := 4) rfl (E rfl rfl) rfl) ?_
       refine AWL.nil ?_
       refine AW.block ?_
       refine AW.rseq ?_
       refine AWL.y rfl rfl (B rfl) (Yv.eql rfl (E rfl rfl) (E rfl rfl)) ?_
       refine AWL.y rfl rfl (B rfl) (Yv.assign rfl (E rfl rfl)) ?_
       refine AWL.nil ?_
       refine AW.cond rfl (fun h4t => ?_) (fun h4f => ?_)
       ·
        try replace h4t := of_decide_eq_true h4t
        have hvj := valid_of hck (by omega) h4t
        refine AW.rseq ?_
        refine AWL.y rfl rfl (B rfl) (Yv.fieldBox rfl fo_32_1 (E rfl rfl)) ?_
        refine AWL.y rfl rfl (B rfl) (Yv.loadBoxA rfl ag_30 (i := 4) rfl (E rfl rfl) rfl rfl) ?_
        refine AWL.callT rfl rfl (B rfl) rfl ce_19 (E rfl rfl) (evsC (E rfl rfl) evs0) (encode19 (l.getD j default).ins) ?_
        rintro t63 S63 rfl
        rw [if_pos hvj]
        refine AWL.y rfl rfl (B rfl) (Yv.move rfl (E rfl rfl)) ?_
        refine AWL.y rfl rfl (B rfl) (Yv.extract rfl (E rfl rfl) rfl) ?_
        refine AWL.y rfl rfl (B rfl) (Yv.extract rfl (E rfl rfl) rfl) ?_
        refine AWL.y rfl rfl (B rfl) (Yv.assign rfl (E rfl rfl)) ?_
        refine AWL.y rfl rfl (B rfl) (Yv.assign rfl (E rfl rfl)) ?_
        refine AWL.nil ?_
        refine AW.region ?_
        refine AWL.y rfl rfl (B rfl) (Yv.move rfl (E rfl rfl)) ?_
        refine AWL.y rfl rfl (B rfl) (Yv.nilChk rfl (E rfl rfl)) ?_
        refine AWL.y rfl rfl (B rfl) (Yv.fieldBox rfl fo_53_1 (E rfl rfl)) ?_
        refine AWL.y rfl rfl (B rfl) (Yv.loadBox rfl ag_37 (i := 0) rfl (E rfl rfl) rfl) ?_
        refine AWL.y rfl rfl (B rfl) (Yv.move rfl (E rfl rfl)) ?_
        refine AWL.y rfl rfl (B rfl) (Yv.move rfl (E rfl rfl)) ?_
        refine AWL.y rfl rfl (B rfl) (Yv.lenSl rfl so_40 (B rfl) (E rfl rfl) len_u8s) ?_
        refine AWL.y rfl rfl (B rfl) (Yv.convN_u64 rfl Try.underlying3 kd_23 (E rfl rfl) (fun hg => by omega)) ?_
        refine AWL.y rfl rfl (B rfl) (Yv.indexRow rfl ss_37 (i := 1) rfl (E rfl rfl) (E rfl rfl) (fun hg => ⟨rfl, by omega⟩)) ?_
        refine AWL.storeEp1 (i := 1) rfl rfl rfl ag_23 rfl (E rfl rfl) (E rfl rfl) rfl rfl (by rw [List.length_map, fill_len (by omega)]; omega) ?_
        refine AWL.nil ?_
        refine AW.dropAt 4 ?_
        refine AW.region ?_
        refine AWL.y rfl rfl (B rfl) (Yv.addN_i64 rfl (E rfl rfl) (E rfl rfl) (fun hg => by omega)) ?_
        refine AWL.y rfl rfl (B rfl) (Yv.move rfl (E rfl rfl)) ?_
        refine AWL.nil ?_
        refine ⟨j + 1, by omega, by omega, Sub.cons rfl rfl (Sub.cons rfl rfl (Sub.cons rfl rfl (Sub.cons rfl rfl (Sub.cons rfl rfl (Sub.cons rfl (by simp) Sub.nil))))), ?_⟩
        show [_, _, _, _] = LB b3 l A1 A2 _ _ ++ [_]
        rw [LB, ← fill_setU (f := size0) (v := (encF (l.getD j default).ins).length) (by omega : j < l.length) (by rw [size0, if_pos h4t, if_pos hvj])]
        rfl
       try replace h4f := of_decide_eq_false h4f
       refine AW.seq ?_
       refine AW.rseq ?_
       refine AWL.y rfl rfl (B rfl) (Yv.eql rfl (E rfl rfl) (E rfl rfl)) ?_
       refine AWL.y rfl rfl (B rfl) (Yv.assign rfl (E rfl rfl)) ?_
       refine AWL.nil ?_
       refine AW.cond rfl (fun h5t => ?_) (fun h5f => ?_)
       ·
        try replace h5t := of_decide_eq_true h5t
        refine AW.skip ?_
        refine AW.cond rfl (fun h6t => ?_) (fun h6f => ?_)
        ·
         try replace h6t := of_decide_eq_true h6t
         refine AW.region ?_
         refine AWL.y rfl rfl (B rfl) (Yv.move rfl (E rfl rfl)) ?_
         refine AWL.y rfl rfl (B rfl) (Yv.nilChk rfl (E rfl rfl)) ?_
         refine AWL.y rfl rfl (B rfl) (Yv.fieldBox rfl fo_53_1 (E rfl rfl)) ?_
         refine AWL.y rfl rfl (B rfl) (Yv.loadBox rfl ag_37 (i := 0) rfl (E rfl rfl) rfl) ?_
         refine AWL.y rfl rfl (B rfl) (Yv.move rfl (E rfl rfl)) ?_
         refine AWL.y rfl rfl (B rfl) (Yv.indexRow rfl ss_37 (i := 1) rfl (E rfl rfl) (E rfl rfl) (fun hg => ⟨rfl, by omega⟩)) ?_
         refine AWL.storeEp1 (i := 1) rfl rfl rfl ag_23 rfl (E rfl rfl) (E rfl rfl) rfl rfl (by rw [List.length_map, fill_len (by omega)]; omega) ?_
         refine AWL.nil ?_
         refine AW.dropAt 4 ?_
         refine AW.region ?_
         refine AWL.y rfl rfl (B rfl) (Yv.addN_i64 rfl (E rfl rfl) (E rfl rfl) (fun hg => by omega)) ?_
         refine AWL.y rfl rfl (B rfl) (Yv.move rfl (E rfl rfl)) ?_
         refine AWL.nil ?_
         refine ⟨j + 1, by omega, by omega, Sub.cons rfl rfl (Sub.cons rfl rfl (Sub.cons rfl rfl (Sub.cons rfl rfl (Sub.cons rfl rfl (Sub.cons rfl (by simp) Sub.nil))))), ?_⟩
         show [_, _, _, _] = LB b3 l A1 A2 _ _ ++ [_]
         rw [LB, ← fill_setU (f := size0) (v := 2) (by omega : j < l.length) (by rw [size0, if_neg (by omega), if_pos (by omega)])]
         rfl
        · exfalso; replace h6f := of_decide_eq_false h6f; omega
       try replace h5f := of_decide_eq_false h5f
       refine AW.region ?_
       refine AWL.y rfl rfl (B rfl) (Yv.eql rfl (E rfl rfl) (E rfl rfl)) ?_
       refine AWL.y rfl rfl (B rfl) (Yv.assign rfl (E rfl rfl)) ?_
       refine AWL.nil ?_
       refine AW.cond rfl (fun h7t => ?_) (fun h7f => ?_)
       ·
        try replace h7t := of_decide_eq_true h7t
        refine AW.region ?_
        refine AWL.y rfl rfl (B rfl) (Yv.move rfl (E rfl rfl)) ?_
        refine AWL.y rfl rfl (B rfl) (Yv.nilChk rfl (E rfl rfl)) ?_
        refine AWL.y rfl rfl (B rfl) (Yv.fieldBox rfl fo_53_1 (E rfl rfl)) ?_
        refine AWL.y rfl rfl (B rfl) (Yv.loadBox rfl ag_37 (i := 0) rfl (E rfl rfl) rfl) ?_
        refine AWL.y rfl rfl (B rfl) (Yv.move rfl (E rfl rfl)) ?_
        refine AWL.y rfl rfl (B rfl) (Yv.indexRow rfl ss_37 (i := 1) rfl (E rfl rfl) (E rfl rfl) (fun hg => ⟨rfl, by omega⟩)) ?_
        refine AWL.storeEp1 (i := 1) rfl rfl rfl ag_23 rfl (E rfl rfl) (E rfl rfl) rfl rfl (by rw [List.length_map, fill_len (by omega)]; omega) ?_
        refine AWL.nil ?_
        refine AW.dropAt 4 ?_
        refine AW.region ?_
        refine AWL.y rfl rfl (B rfl) (Yv.addN_i64 rfl (E rfl rfl) (E rfl rfl) (fun hg => by omega)) ?_
        refine AWL.y rfl rfl (B rfl) (Yv.move rfl (E rfl rfl)) ?_
        refine AWL.nil ?_
        refine ⟨j + 1, by omega, by omega, Sub.cons rfl rfl (Sub.cons rfl rfl (Sub.cons rfl rfl (Sub.cons rfl rfl (Sub.cons rfl rfl (Sub.cons rfl (by simp) Sub.nil))))), ?_⟩
        show [_, _, _, _] = LB b3 l A1 A2 _ _ ++ [_]
        rw [LB, ← fill_setU (f := size0) (v := 2) (by omega : j < l.length) (by rw [size0, if_neg (by omega), if_pos (by omega)])]
        rfl
       try replace h7f := of_decide_eq_false h7f
       refine AW.rseq ?_
       refine AWL.y rfl rfl (B rfl) (Yv.eql rfl (E rfl rfl) (E rfl rfl)) ?_
       refine AWL.y rfl rfl (B rfl) (Yv.assign rfl (E rfl rfl)) ?_
       refine AWL.nil ?_
       refine AW.cond rfl (fun h8t => ?_) (fun h8f => ?_)
       ·
        try replace h8t := of_decide_eq_true h8t
        refine AW.region ?_
        refine AWL.y rfl rfl (B rfl) (Yv.move rfl (E rfl rfl)) ?_
        refine AWL.y rfl rfl (B rfl) (Yv.nilChk rfl (E rfl rfl)) ?_
        refine AWL.y rfl rfl (B rfl) (Yv.fieldBox rfl fo_53_1 (E rfl rfl)) ?_
        refine AWL.y rfl rfl (B rfl) (Yv.loadBox rfl ag_37 (i := 0) rfl (E rfl rfl) rfl) ?_
        refine AWL.y rfl rfl (B rfl) (Yv.move rfl (E rfl rfl)) ?_
        refine AWL.y rfl rfl (B rfl) (Yv.indexRow rfl ss_37 (i := 1) rfl (E rfl rfl) (E rfl rfl) (fun hg => ⟨rfl, by omega⟩)) ?_
        refine AWL.storeEp1 (i := 1) rfl rfl rfl ag_23 rfl (E rfl rfl) (E rfl rfl) rfl rfl (by rw [List.length_map, fill_len (by omega)]; omega) ?_
        refine AWL.nil ?_
        refine AW.dropAt 4 ?_
        refine AW.region ?_
        refine AWL.y rfl rfl (B rfl) (Yv.addN_i64 rfl (E rfl rfl) (E rfl rfl) (fun hg => by omega)) ?_
        refine AWL.y rfl rfl (B rfl) (Yv.move rfl (E rfl rfl)) ?_
        refine AWL.nil ?_
        refine ⟨j + 1, by omega, by omega, Sub.cons rfl rfl (Sub.cons rfl rfl (Sub.cons rfl rfl (Sub.cons rfl rfl (Sub.cons rfl rfl (Sub.cons rfl (by simp) Sub.nil))))), ?_⟩
        show [_, _, _, _] = LB b3 l A1 A2 _ _ ++ [_]
        rw [LB, ← fill_setU (f := size0) (v := 5) (by omega : j < l.length) (by rw [size0, if_neg (by omega), if_neg (by omega), if_pos (by omega)])]
        rfl
       try replace h8f := of_decide_eq_false h8f
       refine AW.rseq ?_
       refine AWL.y rfl rfl (B rfl) (Yv.eql rfl (E rfl rfl) (E rfl rfl)) ?_
       refine AWL.y rfl rfl (B rfl) (Yv.assign rfl (E rfl rfl)) ?_
       refine AWL.nil ?_
       refine AW.cond rfl (fun h9t => ?_) (fun h9f => ?_)
       ·
        try replace h9t := of_decide_eq_true h9t
        refine AW.region ?_
        refine AWL.y rfl rfl (B rfl) (Yv.move rfl (E rfl rfl)) ?_
        refine AWL.y rfl rfl (B rfl) (Yv.nilChk rfl (E rfl rfl)) ?_
        refine AWL.y rfl rfl (B rfl) (Yv.fieldBox rfl fo_53_1 (E rfl rfl)) ?_
        refine AWL.y rfl rfl (B rfl) (Yv.loadBox rfl ag_37 (i := 0) rfl (E rfl rfl) rfl) ?_
        refine AWL.y rfl rfl (B rfl) (Yv.move rfl (E rfl rfl)) ?_
        refine AWL.y rfl rfl (B rfl) (Yv.indexRow rfl ss_37 (i := 1) rfl (E rfl rfl) (E rfl rfl) (fun hg => ⟨rfl, by omega⟩)) ?_
        refine AWL.storeEp1 (i := 1) rfl rfl rfl ag_23 rfl (E rfl rfl) (E rfl rfl) rfl rfl (by rw [List.length_map, fill_len (by omega)]; omega) ?_
        refine AWL.nil ?_
        refine AW.dropAt 4 ?_
        refine AW.region ?_
        refine AWL.y rfl rfl (B rfl) (Yv.addN_i64 rfl (E rfl rfl) (E rfl rfl) (fun hg => by omega)) ?_
        refine AWL.y rfl rfl (B rfl) (Yv.move rfl (E rfl rfl)) ?_
        refine AWL.nil ?_
        refine ⟨j + 1, by omega, by omega, Sub.cons rfl rfl (Sub.cons rfl rfl (Sub.cons rfl rfl (Sub.cons rfl rfl (Sub.cons rfl rfl (Sub.cons rfl (by simp) Sub.nil))))), ?_⟩
        show [_, _, _, _] = LB b3 l A1 A2 _ _ ++ [_]
        rw [LB, ← fill_setU (f := size0) (v := 7) (by omega : j < l.length) (by rw [size0, if_neg (by omega), if_neg (by omega), if_neg (by omega), if_pos (by omega)])]
        rfl
       try replace h9f := of_decide_eq_false h9f
       refine AW.skip ?_
       refine AW.dropAt 4 ?_
       refine AW.region ?_
       refine AWL.y rfl rfl (B rfl) (Yv.addN_i64 rfl (E rfl rfl) (E rfl rfl) (fun hg => by omega)) ?_
       refine AWL.y rfl rfl (B rfl) (Yv.move rfl (E rfl rfl)) ?_
       refine AWL.nil ?_
       refine ⟨j + 1, by omega, by omega, Sub.cons rfl rfl (Sub.cons rfl rfl (Sub.cons rfl rfl (Sub.cons rfl rfl (Sub.cons rfl rfl (Sub.cons rfl (by simp) Sub.nil))))), ?_⟩
       show [_, _, _, _] = LB b3 l A1 A2 _ _ ++ [_]
       rw [LB, ← fill_same (f := size0) (by omega : j < l.length) (by rw [size0, if_neg (by omega), if_neg (by omega), if_neg (by omega), if_neg (by omega)])]
       rfl
     try replace h2f := of_decide_eq_false h2f
     refine AW.exit ?_
     obtain rfl : j = l.length := by omega
     rw [fill_all, fill_all]
     refine AW.dropAt 3 ?_
     refine AW.rseq ?_
     refine AWL.y rfl rfl (B rfl) (Yv.move rfl (E rfl rfl)) ?_
     refine AWL.y rfl rfl (B rfl) (Yv.assign rfl (E rfl rfl)) ?_
     refine AWL.nil ?_
     refine AW.ret (retI (.tmp rfl .nil) ?_)
     exact ⟨_, _, _, rfl, rfl⟩

end Go.Proofs.Ytabkedlmpaoloaa
