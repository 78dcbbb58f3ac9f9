/-
  CONTRACTS of the world package: a world as it begins; walked by program.
-/
import Derived.Test.YtmiggpnkicdijaaWk7
import Derived.Test.YtmiggpnkicdijaaNew
namespace Go.Proofs.Ytmiggpnkicdijaa
open Go Go.RowKit
set_option linter.unusedVariables false

set_option maxHeartbeats 1000000 in
theorem New9 (stdin : List UInt8) (files : List (List UInt8 × List UInt8)) (hs : stdin.length ≤ 140737488355000) (hl : files.length ≤ 1099511627776) (hd : ∀ x ∈ files, x.2.length ≤ 1099511627776) :
    ACalls Try.prog 9 [worldT stdin files] [] (fun t S => ∃ b m fl, t = wp b ∧ S = WSt b m ⟨fl, stdin, opn0, [], none, 0⟩ ∧ fl.map nb = nF files) := by
  refine ACalls.intro Try.func9 rfl Try.ntmps9 (Nat.le_of_ble_eq_true rfl) rfl fun X w0 => ?_
  refine AW.rseq ?_
  refine AWL.boxOp rfl rfl (B rfl) rfl (E rfl rfl) rfl (fun b1 => ?_)
  refine AWL.y rfl rfl (B rfl) (Yv.assign rfl (E rfl rfl)) ?_
  refine AWL.nil ?_
  refine AW.rseq ?_
  refine AWL.makeMapOp rfl rfl (B rfl) rfl (fun b8 => ?_)
  refine AWL.y rfl rfl (B rfl) (Yv.fieldBox rfl fo_28_0 (E rfl rfl)) ?_
  refine AWL.y rfl rfl (B rfl) (Yv.loadBox rfl ag_9 (i := 0) rfl (E rfl rfl) rfl) ?_
  refine AWL.callP rfl rfl (B rfl) rfl ce_26 (E rfl rfl) (evsC (E rfl rfl) evs0) (clone26 stdin hs) (fun t S h => h) ?_
  refine AWL.y rfl rfl (B rfl) (Yv.buildS rfl sh_70 (evpC (E rfl rfl) (evpC (E rfl rfl) evp0)) (fun _ => rfl)) ?_
  refine AWL.boxOp rfl rfl (B rfl) rfl (E rfl rfl) rfl (fun b13 => ?_)
  refine AWL.y rfl rfl (B rfl) (Yv.assign rfl (E rfl rfl)) ?_
  refine AWL.nil ?_
  refine AW.eqS (S' := [.box b1 28 [sv stdin, .sl 2 (files.flatMap fCells)], .map b8 [], .box b13 70 (wCells b8 stdin opnZ none 0 0)]) rfl ?_
  refine AW.seq ?_
  refine AW.rseq ?_
  refine AWL.y rfl rfl (B rfl) (Yv.fieldBox rfl fo_28_1 (E rfl rfl)) ?_
  refine AWL.y rfl rfl (B rfl) (Yv.loadBox rfl ag_26 (i := 0) rfl (E rfl rfl) rfl) ?_
  refine AWL.y rfl rfl (B rfl) (Yv.lenSl rfl so_26 (B rfl) (E rfl rfl) len_fc) ?_
  refine AWL.y rfl rfl (B rfl) (Yv.move rfl (E rfl rfl)) ?_
  refine AWL.nil ?_
  refine AW.block ?_
  refine AW.loop2 (fun (j : Nat) (fl : List FileR) => [(1, true, .v (.pointer (some ⟨b1, 0, none⟩))), (3, true, wp b13), (15, true, .sl 2 (files.flatMap fCells)), (16, true, .v (.int .i64 (files.length : Int))), (17, true, .v (.int .i64 (j : Int)))]) (fun (j : Nat) (fl : List FileR) => (.box b1 28 [sv stdin, .sl 2 (files.flatMap fCells)] :: .map b8 (fl.map fileKey) :: .box b13 70 (wCells b8 stdin opnZ none 0 0) :: fl.map fileRow)) (fun (j : Nat) (fl : List FileR) => j ≤ files.length ∧ fl.map nb = nF (files.take j)) (fun (j : Nat) (fl : List FileR) => files.length - j) 0 ([]) ?_ ?_ ?_ ?_
  · exact ⟨Nat.zero_le _, rfl⟩
  · exact (Sub.cons rfl rfl (Sub.cons rfl rfl (Sub.cons rfl rfl (Sub.cons rfl rfl (Sub.cons rfl rfl Sub.nil)))))
  · rfl
  ·
    intro j fl hinv
    obtain ⟨hj, hfl⟩ := hinv
    refine AW.rseq ?_
    refine AWL.y rfl rfl (B rfl) (Yv.lss rfl (E rfl rfl) (E rfl rfl)) ?_
    refine AWL.nil ?_
    refine AW.seq ?_
    refine AW.cond rfl (fun h0t => ?_) (fun h0f => ?_)
    ·
      try replace h0t := of_decide_eq_true h0t
      have hsu := nF_succ (l := files) (j := j) (by omega)
      refine AW.skip ?_
      refine AW.seq ?_
      refine AW.block ?_
      refine AW.rseq ?_
      refine AWL.y rfl rfl (B rfl) (Yv.indexSl rfl ss_26 (B rfl) (E rfl rfl) (E rfl rfl) (fun hg => ⟨rfl, (by first | omega | (simp only [len_fc, len_ev]; omega))⟩)) ?_
      refine AWL.y rfl rfl (B rfl) (Yv.loadRpA rfl ag_46 (E rfl rfl) (fun hg => fc_get (by omega))) ?_
      refine AWL.allocOp rfl rfl (B rfl) rfl zc_46 (fun b5 => ?_)
      refine AWL.perm (S' := .box b5 46 [sv [], sv []] :: .box b1 28 [sv stdin, .sl 2 (files.flatMap fCells)] :: .map b8 (fl.map fileKey) :: .box b13 70 (wCells b8 stdin opnZ none 0 0) :: fl.map fileRow) (List.perm_append_singleton _ _).symm ?_
      refine AWL.storeBox (i := 0) rfl rfl rfl ag_46 rfl (E rfl rfl) (E rfl rfl) rfl rfl (Nat.le_of_ble_eq_true rfl) ?_
      refine AWL.nil ?_
      refine AW.rseqQ rfl (by kernel_rfl) ?_
      refine AWQ.y rfl rfl (B rfl) (Yv.move rfl (E rfl rfl)) ?_
      refine AWQ.y rfl rfl (B rfl) (Yv.nilChk rfl (E rfl rfl)) ?_
      refine AWQ.y rfl rfl (B rfl) (Yv.fieldBox rfl fo_70_0 (E rfl rfl)) ?_
      refine AWQ.y rfl rfl (B rfl) (Yv.loadBox rfl ag_64 (i := 3) rfl (E rfl rfl) rfl) ?_
      refine AWQ.y rfl rfl (B rfl) (Yv.fieldBox rfl fo_46_0 (E rfl rfl)) ?_
      refine AWQ.y rfl rfl (B rfl) (Yv.loadBox rfl ag_9 (i := 0) rfl (E rfl rfl) rfl) ?_
      refine AWQ.y rfl rfl (B rfl) (Yv.lookup2 (k := .s _) (i := 2) rfl mp_64 rfl (E rfl rfl) (E rfl rfl) rfl (files_good _)) ?_
      refine AWQ.y rfl rfl (B rfl) (Yv.move rfl (E rfl rfl)) ?_
      refine AWQ.y rfl rfl (B rfl) (Yv.extract rfl (E rfl rfl) rfl) ?_
      refine AWQ.y rfl rfl (B rfl) (Yv.extract rfl (E rfl rfl) rfl) ?_
      refine AWQ.y rfl rfl (B rfl) (Yv.assign rfl (E rfl rfl)) ?_
      refine AWQ.y rfl rfl (B rfl) (Yv.assign rfl (E rfl rfl)) ?_
      refine AWQ.nil ?_
      refine AW.rseq ?_
      refine AWL.y rfl rfl (B rfl) (Yv.move rfl (E rfl rfl)) ?_
      refine AWL.y rfl rfl (B rfl) (Yv.not rfl (E rfl rfl)) ?_
      refine AWL.y rfl rfl (B rfl) (Yv.move rfl (E rfl rfl)) ?_
      refine AWL.ygT rfl rfl rfl rfl (B rfl) (Yv.fieldBox rfl fo_46_0 (E rfl rfl)) ?_
      refine AWL.ygT rfl rfl rfl rfl (B rfl) (Yv.loadBox rfl ag_9 (i := 0) rfl (Eg rfl rfl id) rfl) ?_
      refine AWL.callPgT rfl rfl rfl rfl (B rfl) rfl ce_27 (E rfl rfl) (evsC (Eg rfl rfl id) evs0) (fun hg => fits27 (files.getD j default).1) (fun t S h => h) ?_
      refine AWL.y rfl rfl (B rfl) (Yv.pickAnd rfl (E rfl rfl) (Eg rfl rfl id)) ?_
      refine AWL.nil ?_
      refine AW.cond rfl (fun h1t => ?_) (fun h1f => ?_)
      ·
        try replace h1t := of_decide_eq_true h1t
        have hadd : (!((nF (files.take j)).any fun y => decide (y.1 = (files.getD j default).1)) && fitsB (files.getD j default).1) = true := by
          rw [← hfl, ← hasK_any]; exact h1t
        have hnone : ∀ g ∈ fl, g.name ≠ (files.getD j default).1 := fun g hg he => by
          simp only [Bool.and_eq_true, Bool.not_eq_true', ← hfl, List.any_eq_false, decide_eq_true_eq] at hadd
          exact hadd.1 (nb g) (List.mem_map.2 ⟨g, hg, rfl⟩) he
        refine AW.regionP rfl ?_
        refine AWP.take (i := 0) rfl (by kernel_rfl) (by kernel_rfl) (by kernel_rfl) rfl rfl (B rfl) (freeMove rfl (E rfl rfl)) ?_
        refine AWP.take (i := 1) rfl (by kernel_rfl) (by kernel_rfl) (by kernel_rfl) rfl rfl (B rfl) (freeNil rfl (E rfl rfl)) ?_
        refine AWP.take (i := 2) rfl (by kernel_rfl) (by kernel_rfl) (by kernel_rfl) rfl rfl (B rfl) (freeField rfl fo_70_0 (E rfl rfl)) ?_
        refine AWP.take (i := 4) rfl (by kernel_rfl) (by kernel_rfl) (by kernel_rfl) rfl rfl (B rfl) (freeField rfl fo_46_0 (E rfl rfl)) ?_
        refine AWP.take (i := 6) rfl (by kernel_rfl) (by kernel_rfl) (by kernel_rfl) rfl rfl (B rfl) (freeField rfl fo_46_1 (E rfl rfl)) ?_
        refine AWP.three (i := 3) (j := 5) (k := 7) (by kernel_rfl) rfl rfl rfl ?_ ?_ ?_
        ·
          refine AWL.y rfl rfl (B rfl) (Yv.loadBox rfl ag_64 (i := 3) rfl (E rfl rfl) rfl) ?_
          refine AWL.nil ?_
          refine AWP.two (i := 5) (j := 7) (by kernel_rfl) rfl rfl ?_ ?_
          ·
            refine AWL.y rfl rfl (B rfl) (Yv.loadBox rfl ag_9 (i := 0) rfl (E rfl rfl) rfl) ?_
            refine AWL.nil ?_
            refine AWP.one (i := 7) (by kernel_rfl) rfl ?_
            refine AWL.y rfl rfl (B rfl) (Yv.loadBox rfl ag_9 (i := 0) rfl (E rfl rfl) rfl) ?_
            refine AWL.nil ?_
            refine AWP.one (i := 8) (by kernel_rfl) rfl ?_
            refine AWL.strBytesRow rfl rfl (B rfl) rfl st_9 so_71 kd_5 (E rfl rfl) (by show _ ≤ _; have := hd _ (getD_mem' (l := files) (j := j) (by omega)); unfold maxLen; exact Nat.le_trans this (by decide)) (fun A46 c46 => ?_)
            refine AWL.nil ?_
            refine AWP.one (i := 9) (by kernel_rfl) rfl ?_
            refine AWL.mapUpd (k := .s _) (i := 2) rfl rfl (.inl rfl) mp_64 rfl (E rfl rfl) (E rfl rfl) (E rfl rfl) rfl rfl (files_good _) ?_
            refine AWL.nil ?_
            refine AWP.done (by kernel_rfl) ?_
            refine AW.dropAt 0 ?_
            refine AW.region ?_
            refine AWL.y rfl rfl (B rfl) (Yv.addN_i64 rfl (E rfl rfl) (E rfl rfl) (fun hg => by omega)) ?_
            refine AWL.y rfl rfl (B rfl) (Yv.move rfl (E rfl rfl)) ?_
            refine AWL.nil ?_
            have hkey := put_new (l := fl) ⟨(files.getD j default).1, (files.getD j default).2, A46, c46⟩ hnone
            refine ⟨j + 1, fl ++ [⟨(files.getD j default).1, (files.getD j default).2, A46, c46⟩], ⟨by omega, ?_⟩, by omega, (Sub.cons rfl rfl (Sub.cons rfl rfl (Sub.cons rfl rfl (Sub.cons rfl rfl (Sub.cons rfl (by simp) Sub.nil))))), ?_⟩
            · rw [hsu, stepN, if_pos hadd, ← hfl, List.map_append]; rfl
            · rw [← hkey, List.map_append]; rfl
          ·
            refine AWL.y rfl rfl (B rfl) (Yv.loadBox rfl ag_9 (i := 0) rfl (E rfl rfl) rfl) ?_
            refine AWL.nil ?_
            refine AWP.two (i := 5) (j := 8) (by kernel_rfl) rfl rfl ?_ ?_
            ·
              refine AWL.y rfl rfl (B rfl) (Yv.loadBox rfl ag_9 (i := 0) rfl (E rfl rfl) rfl) ?_
              refine AWL.nil ?_
              refine AWP.one (i := 8) (by kernel_rfl) rfl ?_
              refine AWL.strBytesRow rfl rfl (B rfl) rfl st_9 so_71 kd_5 (E rfl rfl) (by show _ ≤ _; have := hd _ (getD_mem' (l := files) (j := j) (by omega)); unfold maxLen; exact Nat.le_trans this (by decide)) (fun A46 c46 => ?_)
              refine AWL.nil ?_
              refine AWP.one (i := 9) (by kernel_rfl) rfl ?_
              refine AWL.mapUpd (k := .s _) (i := 2) rfl rfl (.inl rfl) mp_64 rfl (E rfl rfl) (E rfl rfl) (E rfl rfl) rfl rfl (files_good _) ?_
              refine AWL.nil ?_
              refine AWP.done (by kernel_rfl) ?_
              refine AW.dropAt 0 ?_
              refine AW.region ?_
              refine AWL.y rfl rfl (B rfl) (Yv.addN_i64 rfl (E rfl rfl) (E rfl rfl) (fun hg => by omega)) ?_
              refine AWL.y rfl rfl (B rfl) (Yv.move rfl (E rfl rfl)) ?_
              refine AWL.nil ?_
              have hkey := put_new (l := fl) ⟨(files.getD j default).1, (files.getD j default).2, A46, c46⟩ hnone
              refine ⟨j + 1, fl ++ [⟨(files.getD j default).1, (files.getD j default).2, A46, c46⟩], ⟨by omega, ?_⟩, by omega, (Sub.cons rfl rfl (Sub.cons rfl rfl (Sub.cons rfl rfl (Sub.cons rfl rfl (Sub.cons rfl (by simp) Sub.nil))))), ?_⟩
              · rw [hsu, stepN, if_pos hadd, ← hfl, List.map_append]; rfl
              · rw [← hkey, List.map_append]; rfl
            ·
              refine AWL.strBytesRow rfl rfl (B rfl) rfl st_9 so_71 kd_5 (E rfl rfl) (by show _ ≤ _; have := hd _ (getD_mem' (l := files) (j := j) (by omega)); unfold maxLen; exact Nat.le_trans this (by decide)) (fun A46 c46 => ?_)
              refine AWL.nil ?_
              refine AWP.one (i := 5) (by kernel_rfl) rfl ?_
              refine AWL.y rfl rfl (B rfl) (Yv.loadBox rfl ag_9 (i := 0) rfl (E rfl rfl) rfl) ?_
              refine AWL.nil ?_
              refine AWP.one (i := 9) (by kernel_rfl) rfl ?_
              refine AWL.mapUpd (k := .s _) (i := 2) rfl rfl (.inl rfl) mp_64 rfl (E rfl rfl) (E rfl rfl) (E rfl rfl) rfl rfl (files_good _) ?_
              refine AWL.nil ?_
              refine AWP.done (by kernel_rfl) ?_
              refine AW.dropAt 0 ?_
              refine AW.region ?_
              refine AWL.y rfl rfl (B rfl) (Yv.addN_i64 rfl (E rfl rfl) (E rfl rfl) (fun hg => by omega)) ?_
              refine AWL.y rfl rfl (B rfl) (Yv.move rfl (E rfl rfl)) ?_
              refine AWL.nil ?_
              have hkey := put_new (l := fl) ⟨(files.getD j default).1, (files.getD j default).2, A46, c46⟩ hnone
              refine ⟨j + 1, fl ++ [⟨(files.getD j default).1, (files.getD j default).2, A46, c46⟩], ⟨by omega, ?_⟩, by omega, (Sub.cons rfl rfl (Sub.cons rfl rfl (Sub.cons rfl rfl (Sub.cons rfl rfl (Sub.cons rfl (by simp) Sub.nil))))), ?_⟩
              · rw [hsu, stepN, if_pos hadd, ← hfl, List.map_append]; rfl
              · rw [← hkey, List.map_append]; rfl
        ·
          refine AWL.y rfl rfl (B rfl) (Yv.loadBox rfl ag_9 (i := 0) rfl (E rfl rfl) rfl) ?_
          refine AWL.nil ?_
          refine AWP.two (i := 3) (j := 7) (by kernel_rfl) rfl rfl ?_ ?_
          ·
            refine AWL.y rfl rfl (B rfl) (Yv.loadBox rfl ag_64 (i := 3) rfl (E rfl rfl) rfl) ?_
            refine AWL.nil ?_
            refine AWP.one (i := 7) (by kernel_rfl) rfl ?_
            refine AWL.y rfl rfl (B rfl) (Yv.loadBox rfl ag_9 (i := 0) rfl (E rfl rfl) rfl) ?_
            refine AWL.nil ?_
            refine AWP.one (i := 8) (by kernel_rfl) rfl ?_
            refine AWL.strBytesRow rfl rfl (B rfl) rfl st_9 so_71 kd_5 (E rfl rfl) (by show _ ≤ _; have := hd _ (getD_mem' (l := files) (j := j) (by omega)); unfold maxLen; exact Nat.le_trans this (by decide)) (fun A46 c46 => ?_)
            refine AWL.nil ?_
            refine AWP.one (i := 9) (by kernel_rfl) rfl ?_
            refine AWL.mapUpd (k := .s _) (i := 2) rfl rfl (.inl rfl) mp_64 rfl (E rfl rfl) (E rfl rfl) (E rfl rfl) rfl rfl (files_good _) ?_
            refine AWL.nil ?_
            refine AWP.done (by kernel_rfl) ?_
            refine AW.dropAt 0 ?_
            refine AW.region ?_
            refine AWL.y rfl rfl (B rfl) (Yv.addN_i64 rfl (E rfl rfl) (E rfl rfl) (fun hg => by omega)) ?_
            refine AWL.y rfl rfl (B rfl) (Yv.move rfl (E rfl rfl)) ?_
            refine AWL.nil ?_
            have hkey := put_new (l := fl) ⟨(files.getD j default).1, (files.getD j default).2, A46, c46⟩ hnone
            refine ⟨j + 1, fl ++ [⟨(files.getD j default).1, (files.getD j default).2, A46, c46⟩], ⟨by omega, ?_⟩, by omega, (Sub.cons rfl rfl (Sub.cons rfl rfl (Sub.cons rfl rfl (Sub.cons rfl rfl (Sub.cons rfl (by simp) Sub.nil))))), ?_⟩
            · rw [hsu, stepN, if_pos hadd, ← hfl, List.map_append]; rfl
            · rw [← hkey, List.map_append]; rfl
          ·
            refine AWL.y rfl rfl (B rfl) (Yv.loadBox rfl ag_9 (i := 0) rfl (E rfl rfl) rfl) ?_
            refine AWL.nil ?_
            refine AWP.two (i := 3) (j := 8) (by kernel_rfl) rfl rfl ?_ ?_
            ·
              refine AWL.y rfl rfl (B rfl) (Yv.loadBox rfl ag_64 (i := 3) rfl (E rfl rfl) rfl) ?_
              refine AWL.nil ?_
              refine AWP.one (i := 8) (by kernel_rfl) rfl ?_
              refine AWL.strBytesRow rfl rfl (B rfl) rfl st_9 so_71 kd_5 (E rfl rfl) (by show _ ≤ _; have := hd _ (getD_mem' (l := files) (j := j) (by omega)); unfold maxLen; exact Nat.le_trans this (by decide)) (fun A46 c46 => ?_)
              refine AWL.nil ?_
              refine AWP.one (i := 9) (by kernel_rfl) rfl ?_
              refine AWL.mapUpd (k := .s _) (i := 2) rfl rfl (.inl rfl) mp_64 rfl (E rfl rfl) (E rfl rfl) (E rfl rfl) rfl rfl (files_good _) ?_
              refine AWL.nil ?_
              refine AWP.done (by kernel_rfl) ?_
              refine AW.dropAt 0 ?_
              refine AW.region ?_
              refine AWL.y rfl rfl (B rfl) (Yv.addN_i64 rfl (E rfl rfl) (E rfl rfl) (fun hg => by omega)) ?_
              refine AWL.y rfl rfl (B rfl) (Yv.move rfl (E rfl rfl)) ?_
              refine AWL.nil ?_
              have hkey := put_new (l := fl) ⟨(files.getD j default).1, (files.getD j default).2, A46, c46⟩ hnone
              refine ⟨j + 1, fl ++ [⟨(files.getD j default).1, (files.getD j default).2, A46, c46⟩], ⟨by omega, ?_⟩, by omega, (Sub.cons rfl rfl (Sub.cons rfl rfl (Sub.cons rfl rfl (Sub.cons rfl rfl (Sub.cons rfl (by simp) Sub.nil))))), ?_⟩
              · rw [hsu, stepN, if_pos hadd, ← hfl, List.map_append]; rfl
              · rw [← hkey, List.map_append]; rfl
            ·
              refine AWL.strBytesRow rfl rfl (B rfl) rfl st_9 so_71 kd_5 (E rfl rfl) (by show _ ≤ _; have := hd _ (getD_mem' (l := files) (j := j) (by omega)); unfold maxLen; exact Nat.le_trans this (by decide)) (fun A46 c46 => ?_)
              refine AWL.nil ?_
              refine AWP.one (i := 3) (by kernel_rfl) rfl ?_
              refine AWL.y rfl rfl (B rfl) (Yv.loadBox rfl ag_64 (i := 3) rfl (E rfl rfl) rfl) ?_
              refine AWL.nil ?_
              refine AWP.one (i := 9) (by kernel_rfl) rfl ?_
              refine AWL.mapUpd (k := .s _) (i := 2) rfl rfl (.inl rfl) mp_64 rfl (E rfl rfl) (E rfl rfl) (E rfl rfl) rfl rfl (files_good _) ?_
              refine AWL.nil ?_
              refine AWP.done (by kernel_rfl) ?_
              refine AW.dropAt 0 ?_
              refine AW.region ?_
              refine AWL.y rfl rfl (B rfl) (Yv.addN_i64 rfl (E rfl rfl) (E rfl rfl) (fun hg => by omega)) ?_
              refine AWL.y rfl rfl (B rfl) (Yv.move rfl (E rfl rfl)) ?_
              refine AWL.nil ?_
              have hkey := put_new (l := fl) ⟨(files.getD j default).1, (files.getD j default).2, A46, c46⟩ hnone
              refine ⟨j + 1, fl ++ [⟨(files.getD j default).1, (files.getD j default).2, A46, c46⟩], ⟨by omega, ?_⟩, by omega, (Sub.cons rfl rfl (Sub.cons rfl rfl (Sub.cons rfl rfl (Sub.cons rfl rfl (Sub.cons rfl (by simp) Sub.nil))))), ?_⟩
              · rw [hsu, stepN, if_pos hadd, ← hfl, List.map_append]; rfl
              · rw [← hkey, List.map_append]; rfl
        ·
          refine AWL.y rfl rfl (B rfl) (Yv.loadBox rfl ag_9 (i := 0) rfl (E rfl rfl) rfl) ?_
          refine AWL.nil ?_
          refine AWP.three (i := 3) (j := 5) (k := 8) (by kernel_rfl) rfl rfl rfl ?_ ?_ ?_
          ·
            refine AWL.y rfl rfl (B rfl) (Yv.loadBox rfl ag_64 (i := 3) rfl (E rfl rfl) rfl) ?_
            refine AWL.nil ?_
            refine AWP.two (i := 5) (j := 8) (by kernel_rfl) rfl rfl ?_ ?_
            ·
              refine AWL.y rfl rfl (B rfl) (Yv.loadBox rfl ag_9 (i := 0) rfl (E rfl rfl) rfl) ?_
              refine AWL.nil ?_
              refine AWP.one (i := 8) (by kernel_rfl) rfl ?_
              refine AWL.strBytesRow rfl rfl (B rfl) rfl st_9 so_71 kd_5 (E rfl rfl) (by show _ ≤ _; have := hd _ (getD_mem' (l := files) (j := j) (by omega)); unfold maxLen; exact Nat.le_trans this (by decide)) (fun A46 c46 => ?_)
              refine AWL.nil ?_
              refine AWP.one (i := 9) (by kernel_rfl) rfl ?_
              refine AWL.mapUpd (k := .s _) (i := 2) rfl rfl (.inl rfl) mp_64 rfl (E rfl rfl) (E rfl rfl) (E rfl rfl) rfl rfl (files_good _) ?_
              refine AWL.nil ?_
              refine AWP.done (by kernel_rfl) ?_
              refine AW.dropAt 0 ?_
              refine AW.region ?_
              refine AWL.y rfl rfl (B rfl) (Yv.addN_i64 rfl (E rfl rfl) (E rfl rfl) (fun hg => by omega)) ?_
              refine AWL.y rfl rfl (B rfl) (Yv.move rfl (E rfl rfl)) ?_
              refine AWL.nil ?_
              have hkey := put_new (l := fl) ⟨(files.getD j default).1, (files.getD j default).2, A46, c46⟩ hnone
              refine ⟨j + 1, fl ++ [⟨(files.getD j default).1, (files.getD j default).2, A46, c46⟩], ⟨by omega, ?_⟩, by omega, (Sub.cons rfl rfl (Sub.cons rfl rfl (Sub.cons rfl rfl (Sub.cons rfl rfl (Sub.cons rfl (by simp) Sub.nil))))), ?_⟩
              · rw [hsu, stepN, if_pos hadd, ← hfl, List.map_append]; rfl
              · rw [← hkey, List.map_append]; rfl
            ·
              refine AWL.strBytesRow rfl rfl (B rfl) rfl st_9 so_71 kd_5 (E rfl rfl) (by show _ ≤ _; have := hd _ (getD_mem' (l := files) (j := j) (by omega)); unfold maxLen; exact Nat.le_trans this (by decide)) (fun A46 c46 => ?_)
              refine AWL.nil ?_
              refine AWP.one (i := 5) (by kernel_rfl) rfl ?_
              refine AWL.y rfl rfl (B rfl) (Yv.loadBox rfl ag_9 (i := 0) rfl (E rfl rfl) rfl) ?_
              refine AWL.nil ?_
              refine AWP.one (i := 9) (by kernel_rfl) rfl ?_
              refine AWL.mapUpd (k := .s _) (i := 2) rfl rfl (.inl rfl) mp_64 rfl (E rfl rfl) (E rfl rfl) (E rfl rfl) rfl rfl (files_good _) ?_
              refine AWL.nil ?_
              refine AWP.done (by kernel_rfl) ?_
              refine AW.dropAt 0 ?_
              refine AW.region ?_
              refine AWL.y rfl rfl (B rfl) (Yv.addN_i64 rfl (E rfl rfl) (E rfl rfl) (fun hg => by omega)) ?_
              refine AWL.y rfl rfl (B rfl) (Yv.move rfl (E rfl rfl)) ?_
              refine AWL.nil ?_
              have hkey := put_new (l := fl) ⟨(files.getD j default).1, (files.getD j default).2, A46, c46⟩ hnone
              refine ⟨j + 1, fl ++ [⟨(files.getD j default).1, (files.getD j default).2, A46, c46⟩], ⟨by omega, ?_⟩, by omega, (Sub.cons rfl rfl (Sub.cons rfl rfl (Sub.cons rfl rfl (Sub.cons rfl rfl (Sub.cons rfl (by simp) Sub.nil))))), ?_⟩
              · rw [hsu, stepN, if_pos hadd, ← hfl, List.map_append]; rfl
              · rw [← hkey, List.map_append]; rfl
          ·
            refine AWL.y rfl rfl (B rfl) (Yv.loadBox rfl ag_9 (i := 0) rfl (E rfl rfl) rfl) ?_
            refine AWL.nil ?_
            refine AWP.two (i := 3) (j := 8) (by kernel_rfl) rfl rfl ?_ ?_
            ·
              refine AWL.y rfl rfl (B rfl) (Yv.loadBox rfl ag_64 (i := 3) rfl (E rfl rfl) rfl) ?_
              refine AWL.nil ?_
              refine AWP.one (i := 8) (by kernel_rfl) rfl ?_
              refine AWL.strBytesRow rfl rfl (B rfl) rfl st_9 so_71 kd_5 (E rfl rfl) (by show _ ≤ _; have := hd _ (getD_mem' (l := files) (j := j) (by omega)); unfold maxLen; exact Nat.le_trans this (by decide)) (fun A46 c46 => ?_)
              refine AWL.nil ?_
              refine AWP.one (i := 9) (by kernel_rfl) rfl ?_
              refine AWL.mapUpd (k := .s _) (i := 2) rfl rfl (.inl rfl) mp_64 rfl (E rfl rfl) (E rfl rfl) (E rfl rfl) rfl rfl (files_good _) ?_
              refine AWL.nil ?_
              refine AWP.done (by kernel_rfl) ?_
              refine AW.dropAt 0 ?_
              refine AW.region ?_
              refine AWL.y rfl rfl (B rfl) (Yv.addN_i64 rfl (E rfl rfl) (E rfl rfl) (fun hg => by omega)) ?_
              refine AWL.y rfl rfl (B rfl) (Yv.move rfl (E rfl rfl)) ?_
              refine AWL.nil ?_
              have hkey := put_new (l := fl) ⟨(files.getD j default).1, (files.getD j default).2, A46, c46⟩ hnone
              refine ⟨j + 1, fl ++ [⟨(files.getD j default).1, (files.getD j default).2, A46, c46⟩], ⟨by omega, ?_⟩, by omega, (Sub.cons rfl rfl (Sub.cons rfl rfl (Sub.cons rfl rfl (Sub.cons rfl rfl (Sub.cons rfl (by simp) Sub.nil))))), ?_⟩
              · rw [hsu, stepN, if_pos hadd, ← hfl, List.map_append]; rfl
              · rw [← hkey, List.map_append]; rfl
            ·
              refine AWL.strBytesRow rfl rfl (B rfl) rfl st_9 so_71 kd_5 (E rfl rfl) (by show _ ≤ _; have := hd _ (getD_mem' (l := files) (j := j) (by omega)); unfold maxLen; exact Nat.le_trans this (by decide)) (fun A46 c46 => ?_)
              refine AWL.nil ?_
              refine AWP.one (i := 3) (by kernel_rfl) rfl ?_
              refine AWL.y rfl rfl (B rfl) (Yv.loadBox rfl ag_64 (i := 3) rfl (E rfl rfl) rfl) ?_
              refine AWL.nil ?_
              refine AWP.one (i := 9) (by kernel_rfl) rfl ?_
              refine AWL.mapUpd (k := .s _) (i := 2) rfl rfl (.inl rfl) mp_64 rfl (E rfl rfl) (E rfl rfl) (E rfl rfl) rfl rfl (files_good _) ?_
              refine AWL.nil ?_
              refine AWP.done (by kernel_rfl) ?_
              refine AW.dropAt 0 ?_
              refine AW.region ?_
              refine AWL.y rfl rfl (B rfl) (Yv.addN_i64 rfl (E rfl rfl) (E rfl rfl) (fun hg => by omega)) ?_
              refine AWL.y rfl rfl (B rfl) (Yv.move rfl (E rfl rfl)) ?_
              refine AWL.nil ?_
              have hkey := put_new (l := fl) ⟨(files.getD j default).1, (files.getD j default).2, A46, c46⟩ hnone
              refine ⟨j + 1, fl ++ [⟨(files.getD j default).1, (files.getD j default).2, A46, c46⟩], ⟨by omega, ?_⟩, by omega, (Sub.cons rfl rfl (Sub.cons rfl rfl (Sub.cons rfl rfl (Sub.cons rfl rfl (Sub.cons rfl (by simp) Sub.nil))))), ?_⟩
              · rw [hsu, stepN, if_pos hadd, ← hfl, List.map_append]; rfl
              · rw [← hkey, List.map_append]; rfl
          ·
            refine AWL.strBytesRow rfl rfl (B rfl) rfl st_9 so_71 kd_5 (E rfl rfl) (by show _ ≤ _; have := hd _ (getD_mem' (l := files) (j := j) (by omega)); unfold maxLen; exact Nat.le_trans this (by decide)) (fun A46 c46 => ?_)
            refine AWL.nil ?_
            refine AWP.two (i := 3) (j := 5) (by kernel_rfl) rfl rfl ?_ ?_
            ·
              refine AWL.y rfl rfl (B rfl) (Yv.loadBox rfl ag_64 (i := 3) rfl (E rfl rfl) rfl) ?_
              refine AWL.nil ?_
              refine AWP.one (i := 5) (by kernel_rfl) rfl ?_
              refine AWL.y rfl rfl (B rfl) (Yv.loadBox rfl ag_9 (i := 0) rfl (E rfl rfl) rfl) ?_
              refine AWL.nil ?_
              refine AWP.one (i := 9) (by kernel_rfl) rfl ?_
              refine AWL.mapUpd (k := .s _) (i := 2) rfl rfl (.inl rfl) mp_64 rfl (E rfl rfl) (E rfl rfl) (E rfl rfl) rfl rfl (files_good _) ?_
              refine AWL.nil ?_
              refine AWP.done (by kernel_rfl) ?_
              refine AW.dropAt 0 ?_
              refine AW.region ?_
              refine AWL.y rfl rfl (B rfl) (Yv.addN_i64 rfl (E rfl rfl) (E rfl rfl) (fun hg => by omega)) ?_
              refine AWL.y rfl rfl (B rfl) (Yv.move rfl (E rfl rfl)) ?_
              refine AWL.nil ?_
              have hkey := put_new (l := fl) ⟨(files.getD j default).1, (files.getD j default).2, A46, c46⟩ hnone
              refine ⟨j + 1, fl ++ [⟨(files.getD j default).1, (files.getD j default).2, A46, c46⟩], ⟨by omega, ?_⟩, by omega, (Sub.cons rfl rfl (Sub.cons rfl rfl (Sub.cons rfl rfl (Sub.cons rfl rfl (Sub.cons rfl (by simp) Sub.nil))))), ?_⟩
              · rw [hsu, stepN, if_pos hadd, ← hfl, List.map_append]; rfl
              · rw [← hkey, List.map_append]; rfl
            ·
              refine AWL.y rfl rfl (B rfl) (Yv.loadBox rfl ag_9 (i := 0) rfl (E rfl rfl) rfl) ?_
              refine AWL.nil ?_
              refine AWP.one (i := 3) (by kernel_rfl) rfl ?_
              refine AWL.y rfl rfl (B rfl) (Yv.loadBox rfl ag_64 (i := 3) rfl (E rfl rfl) rfl) ?_
              refine AWL.nil ?_
              refine AWP.one (i := 9) (by kernel_rfl) rfl ?_
              refine AWL.mapUpd (k := .s _) (i := 2) rfl rfl (.inl rfl) mp_64 rfl (E rfl rfl) (E rfl rfl) (E rfl rfl) rfl rfl (files_good _) ?_
              refine AWL.nil ?_
              refine AWP.done (by kernel_rfl) ?_
              refine AW.dropAt 0 ?_
              refine AW.region ?_
              refine AWL.y rfl rfl (B rfl) (Yv.addN_i64 rfl (E rfl rfl) (E rfl rfl) (fun hg => by omega)) ?_
              refine AWL.y rfl rfl (B rfl) (Yv.move rfl (E rfl rfl)) ?_
              refine AWL.nil ?_
              have hkey := put_new (l := fl) ⟨(files.getD j default).1, (files.getD j default).2, A46, c46⟩ hnone
              refine ⟨j + 1, fl ++ [⟨(files.getD j default).1, (files.getD j default).2, A46, c46⟩], ⟨by omega, ?_⟩, by omega, (Sub.cons rfl rfl (Sub.cons rfl rfl (Sub.cons rfl rfl (Sub.cons rfl rfl (Sub.cons rfl (by simp) Sub.nil))))), ?_⟩
              · rw [hsu, stepN, if_pos hadd, ← hfl, List.map_append]; rfl
              · rw [← hkey, List.map_append]; rfl
      ·
        try replace h1f := of_decide_eq_false h1f
        have hadd : ¬ (!((nF (files.take j)).any fun y => decide (y.1 = (files.getD j default).1)) && fitsB (files.getD j default).1) = true := by
          rw [← hfl, ← hasK_any]; intro h; exact absurd (h.symm.trans h1f) (by decide)
        refine AW.skip ?_
        refine AW.dropAt 0 ?_
        refine AW.region ?_
        refine AWL.y rfl rfl (B rfl) (Yv.addN_i64 rfl (E rfl rfl) (E rfl rfl) (fun hg => by omega)) ?_
        refine AWL.y rfl rfl (B rfl) (Yv.move rfl (E rfl rfl)) ?_
        refine AWL.nil ?_
        refine ⟨j + 1, fl, ⟨by omega, ?_⟩, by omega, (Sub.cons rfl rfl (Sub.cons rfl rfl (Sub.cons rfl rfl (Sub.cons rfl rfl (Sub.cons rfl (by simp) Sub.nil))))), rfl⟩
        rw [hsu, stepN, if_neg hadd]; exact hfl
    ·
      try replace h0f := of_decide_eq_false h0f
      refine AW.exit ?_
      refine AW.rowNil 36 3 ?_
      refine AW.dropAt 0 ?_
      refine AW.perm (S' := .box b13 70 (wCells b8 stdin opnZ none 0 0) :: .map b8 (fl.map fileKey) :: .row none 0 0 36 3 [] :: fl.map fileRow) perm_new ?_
      refine AW.rseqP rfl ?_
      refine AWP.take (i := 0) rfl (by kernel_rfl) (by kernel_rfl) (by kernel_rfl) rfl rfl (B rfl) (freeMove rfl (E rfl rfl)) ?_
      refine AWP.take (i := 1) rfl (by kernel_rfl) (by kernel_rfl) (by kernel_rfl) rfl rfl (B rfl) (freeMove rfl (E rfl rfl)) ?_
      refine AWP.take (i := 2) rfl (by kernel_rfl) (by kernel_rfl) (by kernel_rfl) rfl rfl (B rfl) (freeMove rfl (E rfl rfl)) ?_
      refine AWP.take (i := 3) rfl (by kernel_rfl) (by kernel_rfl) (by kernel_rfl) rfl rfl (B rfl) (freeNil rfl (E rfl rfl)) ?_
      refine AWP.take (i := 4) rfl (by kernel_rfl) (by kernel_rfl) (by kernel_rfl) rfl rfl (B rfl) (freeField rfl fo_70_2 (E rfl rfl)) ?_
      refine AWP.take (i := 5) rfl (by kernel_rfl) (by kernel_rfl) (by kernel_rfl) rfl rfl (B rfl) (freeArr (j := 0) rfl ar_68 (E rfl rfl) (E rfl rfl) ⟨rfl, by decide⟩) ?_
      refine AWP.take (i := 6) rfl (by kernel_rfl) (by kernel_rfl) (by kernel_rfl) rfl rfl (B rfl) (freeField rfl fo_67_0 (E rfl rfl)) ?_
      refine AWP.take (i := 8) rfl (by kernel_rfl) (by kernel_rfl) (by kernel_rfl) rfl rfl (B rfl) (freeNil rfl (E rfl rfl)) ?_
      refine AWP.take (i := 9) rfl (by kernel_rfl) (by kernel_rfl) (by kernel_rfl) rfl rfl (B rfl) (freeField rfl fo_70_2 (E rfl rfl)) ?_
      refine AWP.take (i := 13) rfl (by kernel_rfl) (by kernel_rfl) (by kernel_rfl) rfl rfl (B rfl) (freeNil rfl (E rfl rfl)) ?_
      refine AWP.take (i := 14) rfl (by kernel_rfl) (by kernel_rfl) (by kernel_rfl) rfl rfl (B rfl) (freeField rfl fo_70_2 (E rfl rfl)) ?_
      refine AWP.one (i := 7) (by kernel_rfl) rfl ?_
      refine AWL.storeBox (i := 0) rfl rfl rfl ag_3 rfl (E rfl rfl) (E rfl rfl) rfl rfl (Nat.le_of_ble_eq_true rfl) ?_
      refine AWL.nil ?_
      refine AWP.one (i := 10) (by kernel_rfl) rfl ?_
      refine AWL.y rfl rfl (B rfl) (Yv.indexArr (j := 1) rfl ar_68 (E rfl rfl) (E rfl rfl) (fun hg => ⟨rfl, by decide⟩)) ?_
      refine AWL.nil ?_
      refine AWP.one (i := 11) (by kernel_rfl) rfl ?_
      refine AWL.y rfl rfl (B rfl) (Yv.fieldBox rfl fo_67_0 (E rfl rfl)) ?_
      refine AWL.nil ?_
      refine AWP.one (i := 12) (by kernel_rfl) rfl ?_
      refine AWL.storeBox (i := 0) rfl rfl rfl ag_3 rfl (E rfl rfl) (E rfl rfl) rfl rfl (Nat.le_of_ble_eq_true rfl) ?_
      refine AWL.nil ?_
      refine AWP.one (i := 15) (by kernel_rfl) rfl ?_
      refine AWL.y rfl rfl (B rfl) (Yv.indexArr (j := 2) rfl ar_68 (E rfl rfl) (E rfl rfl) (fun hg => ⟨rfl, by decide⟩)) ?_
      refine AWL.nil ?_
      refine AWP.one (i := 16) (by kernel_rfl) rfl ?_
      refine AWL.y rfl rfl (B rfl) (Yv.fieldBox rfl fo_67_0 (E rfl rfl)) ?_
      refine AWL.nil ?_
      refine AWP.one (i := 17) (by kernel_rfl) rfl ?_
      refine AWL.storeBox (i := 0) rfl rfl rfl ag_3 rfl (E rfl rfl) (E rfl rfl) rfl rfl (Nat.le_of_ble_eq_true rfl) ?_
      refine AWL.nil ?_
      refine AWP.done (by kernel_rfl) ?_
      refine AW.rseq ?_
      refine AWL.y rfl rfl (B rfl) (Yv.move rfl (E rfl rfl)) ?_
      refine AWL.y rfl rfl (B rfl) (Yv.assign rfl (E rfl rfl)) ?_
      refine AWL.nil ?_
      refine AW.ret (retI (.tmp rfl .nil) ?_)
      refine ⟨b13, b8, fl, rfl, ?_, by rw [hfl, List.take_of_length_le (by omega)]⟩
      rfl

end Go.Proofs.Ytmiggpnkicdijaa
