/-
  TEXTS JOINED: Wk10, Aw31, Wp, Wk11, Wk12, Wq.
-/
import Derived.Test.YtlfklgganokgdaaLd
set_option linter.unusedSimpArgs false
set_option linter.unusedVariables false
set_option linter.unusedSectionVars false
set_option linter.unnecessarySimpa false
namespace Go.Proofs.Ytlfklgganokgdaa
open Go Go.RowKit
set_option linter.unusedVariables false
set_option linter.unnecessarySimpa false
set_option linter.unusedSimpArgs false

set_option maxHeartbeats 16000000 in
theorem strict24_ (p : Prog) (f : Fn) (hp : FnIn f) (hf : FnOk p f) (R K : Nat) (hR : f.regs.toNat = R) (hKd : (f.regs.toNat + f.slots.toNat + 63) / 64 = K) :
    ACalls Try.prog 24 [.agg (fnCells f)] [] (fun t S => ∃ b, t = bv b ∧ (b = true ↔ StrictF f)) := by
  have hf0 := hf.par0
  have hf1 := hf.par1
  have hf2 := hf.par2
  have hf3 := hf.regs
  have hf4 := hf.slot0
  have hf5 := hf.slot1
  have hf6 := hf.code
  have hfc := hp.code
  have hRi : f.regs = (R : Int) := by omega
  have hK2 : K ≤ 17409 := by omega
  have hKW : f.regs.toNat + f.slots.toNat ≤ 64 * K := by omega
  have hst := strictF_at hf hKW
  refine ACalls.intro Try.func24 rfl Try.ntmps24 (Nat.le_of_ble_eq_true rfl) rfl fun X w0 => ?_
  refine AW.rseq ?_
  refine AWL.boxOp rfl rfl (B rfl) rfl (E rfl rfl) rfl (fun b1 => ?_)
  refine Y1 (Yv.assign rfl eV) ?_
  refine nl ?_
  refine AW.rseqP rfl ?_
  refine AWP.take (i := 2) rfl (by kernel_rfl) (by kernel_rfl) (by kernel_rfl) rfl rfl (B rfl) (freeField rfl fo_51_4 (E rfl rfl)) ?_
  refine AWP.node (ι := Nat × Option Addr × Nat) 0 #[true, true, true, true, true, true, true, true, true] (fun ⟨b10, A14, b16⟩ => [(3, true, .v (.pointer (some ⟨b16, 0, none⟩))), (1, true, .v (.pointer (some ⟨b1, 0, none⟩)))]) (fun ⟨b10, A14, b16⟩ => (.map b10 [] :: .row A14 f.code.length f.code.length 101 1 (List.replicate f.code.length (([Value.slice none 0 0]).map T.v)).flatten :: .box b16 100 (fnCells f ++ [.v (.map (some b10)), .v (.slice A14 f.code.length f.code.length), .v (.slice none 0 0)]) :: .box b1 51 (fnCells f) :: [])) (fun ⟨b10, A14, b16⟩ => True) ?_ ?_
  ·
    rintro ⟨b10, A14, b16⟩ _
    refine AWP.done (by kernel_rfl) ?_
    refine AW.rowNil 3 1 ?_
    refine AW.perm (S' := [.map b10 (lmT (whT f.code 0)), .box b1 51 (fnCells f), .box b16 100 (fnCells f ++ [.v (.map (some b10)), .v (.slice A14 f.code.length f.code.length), .v (.slice none 0 0)]), .row A14 f.code.length f.code.length 101 1 (List.replicate f.code.length (([Value.slice none 0 0]).map T.v)).flatten, .row none 0 0 3 1 []]) (perm13.cons _) ?_
    refine AW.seq ?_
    refine AW.rseq ?_
    refine Y1 (Yv.fieldBox rfl fo_51_4 eV) ?_
    refine Y1 (Yv.loadBox rfl ag_49 (i := 1) rfl (E rfl rfl) rfl) ?_
    refine Y1 (Yv.lenSl rfl so_49 (B rfl) (E rfl rfl) len_code) ?_
    refine Y1 (Yv.move rfl eV) ?_
    refine nl ?_
    refine AW.block ?_
    refine AW.loop (fun (j : Nat) => [(1, true, .v (.pointer (some ⟨b1, 0, none⟩))), (3, true, .v (.pointer (some ⟨b16, 0, none⟩))), (18, true, .sl 11 (f.code.flatMap insCells)), (19, true, .v (.int .i64 (f.code.length : Int))), (20, true, .v (.int .i64 (j : Int)))]) (fun (j : Nat) => [.map b10 (lmT (whT f.code j)), .box b1 51 (fnCells f), .box b16 100 (fnCells f ++ [.v (.map (some b10)), .v (.slice A14 f.code.length f.code.length), .v (.slice none 0 0)]), .row A14 f.code.length f.code.length 101 1 (List.replicate f.code.length (([Value.slice none 0 0]).map T.v)).flatten, .row none 0 0 3 1 []]) (fun (j : Nat) => j ≤ f.code.length) (fun (j : Nat) => f.code.length - j) 0 ?_ ?_ ?_ ?_
    · exact Nat.zero_le _
    · exact (Sub.cons rfl rfl (Sub.cons rfl rfl (Sub.cons rfl rfl (Sub.cons rfl rfl (Sub.cons rfl rfl Sub.nil)))))
    · rfl
    ·
      intro j hinv
      refine AW.rseq ?_
      refine Y1 (Yv.lss rfl eV eV) ?_
      refine nl ?_
      refine AW.seq ?_
      refine AW.cond rfl (fun h0t => ?_) (fun h0f => ?_)
      ·
        try replace h0t := of_decide_eq_true h0t
        have hj : j < f.code.length := by omega
        refine AW.skip ?_
        refine AW.seq ?_
        refine AW.block ?_
        refine AW.rseq ?_
        refine Y1 (Yv.move rfl eV) ?_
        refine Y1 (Yv.indexSl rfl ss_49 (B rfl) (E rfl rfl) (E rfl rfl) (fun hg => ⟨rfl, (by first | omega | (simp only [len_code, len_funs, len_args, len_data, len_words]; omega))⟩)) ?_
        refine Y1 (Yv.loadRpA rfl ag_58 (E rfl rfl) (fun hg => ins_cells (by omega))) ?_
        refine AWL.allocOp rfl rfl (B rfl) rfl zc_58 (fun b5 => ?_)
        refine Y1 (Yv.assign rfl eV) ?_
        refine AWL.storeBox (i := 5) rfl rfl rfl ag_58 rfl (E rfl rfl) (E rfl rfl) rfl rfl (Nat.le_of_ble_eq_true rfl) ?_
        refine nl ?_
        refine AW.rseq ?_
        refine Y1 (Yv.fieldBox rfl fo_58_0 eV) ?_
        refine Y1 (Yv.loadBox rfl ag_3 (i := 5) rfl (E rfl rfl) rfl) ?_
        refine Y1 (Yv.eql rfl eV eV) ?_
        refine nl ?_
        refine AW.cond rfl (fun h1t => ?_) (fun h1f => ?_)
        ·
          try replace h1t := of_decide_eq_true h1t
          refine AW.regionP rfl ?_
          refine AWP.phase [true, true, true, true, true, true, true] 1 rfl (by kernel_rfl) (by kernel_rfl) ?_
          refine AWQ.y rfl rfl (B rfl) (Yv.move rfl (E rfl rfl)) ?_
          refine AWQ.y rfl rfl (B rfl) (Yv.nilChk rfl (E rfl rfl)) ?_
          refine AWQ.y rfl rfl (B rfl) (Yv.fieldBox rfl fo_100_1 (E rfl rfl)) ?_
          refine AWQ.y rfl rfl (B rfl) (Yv.loadBox rfl ag_53 (i := 2) rfl (E rfl rfl) rfl) ?_
          refine AWQ.y rfl rfl (B rfl) (Yv.fieldBox rfl fo_58_4 (E rfl rfl)) ?_
          refine AWQ.y rfl rfl (B rfl) (Yv.loadBox rfl ag_3 (i := 5) rfl (E rfl rfl) rfl) ?_
          refine AWQ.y rfl rfl (B rfl) (Yv.move rfl (E rfl rfl)) ?_
          refine AWQ.nil ?_
          refine AWP.one (i := 7) (by kernel_rfl) rfl ?_
          refine AWL.mapUpd (k := .i _ _) (i := 0) rfl rfl (.inl rfl) mp_53 rfl (E rfl rfl) (E rfl rfl) (E rfl rfl) rfl rfl (lm_good _ _ rfl) ?_
          refine nl ?_
          refine AWP.done (by kernel_rfl) ?_
          refine AW.dropAt 5 ?_
          refine AW.region ?_
          refine Y1 (Yv.addN_i64 rfl (E rfl rfl) (E rfl rfl) (fun hg => by omega)) ?_
          refine Y1 (Yv.move rfl eV) ?_
          refine nl ?_
          refine ⟨j + 1, by omega, by omega, (Sub.cons rfl rfl (Sub.cons rfl rfl (Sub.cons rfl rfl (Sub.cons rfl rfl (Sub.cons rfl (by simp) Sub.nil))))), ?_⟩
          rw [wh_succ hj, whStep, if_pos h1t, ← put_lm]
          rfl
        ·
          try replace h1f := of_decide_eq_false h1f
          refine AW.skip ?_
          refine AW.dropAt 5 ?_
          refine AW.region ?_
          refine Y1 (Yv.addN_i64 rfl (E rfl rfl) (E rfl rfl) (fun hg => by omega)) ?_
          refine Y1 (Yv.move rfl eV) ?_
          refine nl ?_
          refine ⟨j + 1, by omega, by omega, (Sub.cons rfl rfl (Sub.cons rfl rfl (Sub.cons rfl rfl (Sub.cons rfl rfl (Sub.cons rfl (by simp) Sub.nil))))), ?_⟩
          rw [wh_succ hj, whStep, if_neg h1f]
          rfl
      ·
        try replace h0f := of_decide_eq_false h0f
        obtain rfl : j = f.code.length := by omega
        rw [wh_all (Nat.le_refl _)]
        refine AW.exit ?_
        refine AW.rseq ?_
        refine Y1 (Yv.fieldBox rfl fo_51_2 eV) ?_
        refine Y1 (Yv.loadBox rfl ag_3 (i := 1) rfl (E rfl rfl) rfl) ?_
        refine Y1 (Yv.fieldBox rfl fo_51_3 eV) ?_
        refine Y1 (Yv.loadBox rfl ag_3 (i := 1) rfl (E rfl rfl) rfl) ?_
        refine Y1 (Yv.addN_i64 rfl (E rfl rfl) (E rfl rfl) (fun hg => by omega)) ?_
        refine Y1 (Yv.addN_i64 rfl (E rfl rfl) (E rfl rfl) (fun hg => by omega)) ?_
        refine Y1 (Yv.eqT (t' := .v (.int .i64 (K : Int))) (Yv.quoN_i64 rfl (E rfl rfl) (E rfl rfl) (fun hg => by omega)) (by rw [show (f.regs + f.slots + 63) / 64 = (K : Int) by omega])) ?_
        refine AWL.makeRowS (n := K) (c := K) rfl rfl (B rfl) rfl el_101 (E rfl rfl) (E rfl rfl) (Nat.le_refl _) (by omega) (by unfold maxLen; omega) (fun A43 hA43 => ?_)
        refine Y1 (Yv.assign rfl eV) ?_
        refine nl ?_
        refine AW.perm (List.perm_append_singleton _ _).symm ?_
        refine AW.eqS (S' := [.row A43 K K 39 1 ((firstW K 0).map zw), .map b10 (lmT (whL f.code)), .box b1 51 (fnCells f), .box b16 100 (fnCells f ++ [.v (.map (some b10)), .v (.slice A14 f.code.length f.code.length), .v (.slice none 0 0)]), .row A14 f.code.length f.code.length 101 1 (List.replicate f.code.length (([Value.slice none 0 0]).map T.v)).flatten, .row none 0 0 3 1 []]) (by rw [mk_zero]; rfl) ?_
        refine AW.seq ?_
        refine AW.rseq ?_
        refine Y1 (Yv.fieldBox rfl fo_51_1 eV) ?_
        refine Y1 (Yv.loadBox rfl ag_3 (i := 2) rfl (E rfl rfl) rfl) ?_
        refine Y1 (Yv.move rfl eV) ?_
        refine nl ?_
        refine AW.block ?_
        refine AW.loop (fun (j : Nat) => [(3, true, .v (.pointer (some ⟨b16, 0, none⟩))), (6, true, .v (.slice A43 K K)), (45, true, zi f.params), (46, true, .v (.int .i64 (j : Int)))]) (fun (j : Nat) => [.row A43 K K 39 1 ((firstW K j).map zw), .map b10 (lmT (whL f.code)), .box b1 51 (fnCells f), .box b16 100 (fnCells f ++ [.v (.map (some b10)), .v (.slice A14 f.code.length f.code.length), .v (.slice none 0 0)]), .row A14 f.code.length f.code.length 101 1 (List.replicate f.code.length (([Value.slice none 0 0]).map T.v)).flatten, .row none 0 0 3 1 []]) (fun (j : Nat) => j ≤ f.params.toNat) (fun (j : Nat) => f.params.toNat - j) 0 ?_ ?_ ?_ ?_
        · exact Nat.zero_le _
        · exact (Sub.cons rfl rfl (Sub.cons rfl rfl (Sub.cons rfl rfl (Sub.cons rfl rfl Sub.nil))))
        · rfl
        ·
          intro j hinv
          refine AW.rseq ?_
          refine Y1 (Yv.lss rfl eV eV) ?_
          refine nl ?_
          refine AW.seq ?_
          refine AW.cond rfl (fun h2t => ?_) (fun h2f => ?_)
          ·
            try replace h2t := of_decide_eq_true h2t
            refine AW.skip ?_
            refine AW.seq ?_
            refine AW.block ?_
            refine AW.rseq ?_
            refine Y1 (Yv.move rfl eV) ?_
            refine Y1 (Yv.assign rfl eV) ?_
            refine nl ?_
            refine AW.region ?_
            refine Y1 (Yv.move rfl eV) ?_
            refine Y1 (Yv.move rfl eV) ?_
            refine C1 rfl ce_37 (E rfl rfl) (evsC (E rfl rfl) (evsC (E rfl rfl) evs0)) (S1 := [.row A43 K K 39 1 ((firstW K j).map zw)]) (S2 := _) rfl (put37 A43 K K (firstW K j) j (firstW_len K j) (by omega) (by omega)) ?_
            rintro t51 S51 ⟨rfl, rfl⟩
            refine nl ?_
            refine AW.region ?_
            refine Y1 (Yv.addN_i64 rfl (E rfl rfl) (E rfl rfl) (fun hg => by omega)) ?_
            refine Y1 (Yv.move rfl eV) ?_
            refine nl ?_
            refine ⟨j + 1, by omega, by omega, (Sub.cons rfl rfl (Sub.cons rfl rfl (Sub.cons rfl rfl (Sub.cons rfl (by simp) Sub.nil)))), ?_⟩
            rw [firstW_succ]
            rfl
          ·
            try replace h2f := of_decide_eq_false h2f
            obtain rfl : j = f.params.toNat := by omega
            refine AW.exit ?_
            refine AW.rowNils 39 1 f.code.length ?_
            refine AW.perm (S' := .map b10 (lmT (whL f.code)) :: .box b1 51 (fnCells f) :: .row A43 K K 39 1 ((firstW K f.params.toNat).map zw) :: FSt b16 f b10 A14 f.code.length (fs0 f.code.length)) ?_ ?_
            · have e : (FSt b16 f b10 A14 f.code.length (fs0 f.code.length) : St) = .box b16 100 (fnCells f ++ [.v (.map (some b10)), .v (.slice A14 f.code.length f.code.length), .v (.slice none 0 0)]) :: .row A14 f.code.length f.code.length 101 1 (List.replicate f.code.length (([Value.slice none 0 0]).map T.v)).flatten :: .row none 0 0 3 1 [] :: List.replicate f.code.length (.row none 0 0 39 1 []) := by
                unfold FSt fs0 flCells
                dsimp only
                rw [List.map_replicate, List.map_replicate, mk_nil]
                rfl
              rw [e]
              exact List.perm_middle (l₁ := ([.map b10 (lmT (whL f.code)), .box b1 51 (fnCells f)] : St))
            refine AW.rseq ?_
            refine Y1 (Yv.move rfl eV) ?_
            refine Y1 (Yv.move rfl eV) ?_
            refine AWL.callE rfl rfl (B rfl) rfl ce_38 (E rfl rfl) (evsC (E rfl rfl) (evsC (E rfl rfl) (evsC (E rfl rfl) evs0))) (F1 := [.map b10 (lmT (whL f.code)), .box b1 51 (fnCells f)]) (S1 := (.row A43 K K 39 1 ((firstW K f.params.toNat).map zw) :: FSt b16 f b10 A14 f.code.length (fs0 f.code.length))) rfl (to38 b16 f b10 A14 f.code.length K (fs0 f.code.length) 0 A43 K (firstW K f.params.toNat) (fs0_ok _ _) hf6 hfc (by omega) (firstW_len K _) (Nat.zero_le _)) ?_
            rintro t55 S55 ⟨rfl, fs1, hto, rfl⟩
            refine nl ?_
            refine AW.dropAt 1 ?_
            refine AW.dropAt 1 ?_
            rw [firstW_abs (R := R) (by omega)] at hto
            have hw1 := WI.start (R := R) rfl hf6 (by omega) hto
            have hprod : f.code.length * (64 * K + 1) ≤ 1168299261952 := by
              have h1 : f.code.length * (64 * K + 1) ≤ 1048576 * (64 * 17409 + 1) := Nat.mul_le_mul hfc (by omega)
              omega
            refine AW.seq ?_
            refine AW.block ?_
            refine AW.loop (fun (fs : FS) => [(3, true, .v (.pointer (some ⟨b16, 0, none⟩)))]) (fun (fs : FS) => (.map b10 (lmT (whL f.code)) :: FSt b16 f b10 A14 f.code.length fs)) (fun (fs : FS) => WI f R (64 * K) f.code.length K fs ∧ meas (64 * K) fs ≤ f.code.length * (64 * K + 1)) (fun (fs : FS) => 2 * pot (64 * K) (famW fs.sls) + fs.todo.length) fs1 ?_ ?_ ?_ ?_
            · exact hw1
            · exact (Sub.cons rfl rfl Sub.nil)
            · rfl
            ·
              intro fs hinv
              obtain ⟨hwi, hms⟩ := hinv
              have htl : fs.todo.length ≤ meas (64 * K) fs := Nat.le_add_left _ _
              refine AW.seq ?_
              refine AW.rseq ?_
              refine Y1 (Yv.move rfl eV) ?_
              refine Y1 (Yv.nilChk rfl eV) ?_
              refine Y1 (Yv.fieldBox rfl fo_100_3 eV) ?_
              refine Y1 (Yv.loadBox rfl ag_47 (i := 1) rfl (E rfl rfl) rfl) ?_
              refine Y1 (Yv.lenV rfl so_47 (E rfl rfl)) ?_
              refine Y1 (Yv.gtr rfl eV eV) ?_
              refine nl ?_
              refine AW.cond rfl (fun h3t => ?_) (fun h3f => ?_)
              ·
                try replace h3t := of_decide_eq_true h3t
                have htd0 : 0 < fs.todo.length := by omega
                have hkm := hwi.todo _ (getD_mem (l := fs.todo) (j := (fs.todo.length - 1)) (by omega))
                have hkn := hkm.1
                have hkl : (fs.todo.getD (fs.todo.length - 1) default) < fs.sls.length := by rw [hwi.fok.len]; exact hkn
                have hkv : (fs.sls.getD (fs.todo.getD (fs.todo.length - 1) default) default).v = some (fs.sls.getD (fs.todo.getD (fs.todo.length - 1) default) default).ws := by
                  have h := hkm.2
                  rw [fam_atW hkl] at h
                  unfold Sw.ws
                  cases hv : (fs.sls.getD (fs.todo.getD (fs.todo.length - 1) default) default).v with
                  | none => rw [hv] at h; cases h
                  | some x => rfl
                have hkX : famAt (famW fs.sls) (fs.todo.getD (fs.todo.length - 1) default) = some (absB (fs.sls.getD (fs.todo.getD (fs.todo.length - 1) default) default).ws) := by rw [fam_atW hkl, hkv]; rfl
                refine AW.skip ?_
                refine AW.block ?_
                refine AW.rseqQ rfl (by kernel_rfl) ?_
                refine AWQ.y rfl rfl (B rfl) (Yv.move rfl (E rfl rfl)) ?_
                refine AWQ.y rfl rfl (B rfl) (Yv.nilChk rfl (E rfl rfl)) ?_
                refine AWQ.y rfl rfl (B rfl) (Yv.fieldBox rfl fo_100_3 (E rfl rfl)) ?_
                refine AWQ.y rfl rfl (B rfl) (Yv.loadBox rfl ag_47 (i := 1) rfl (E rfl rfl) rfl) ?_
                refine AWQ.y rfl rfl (B rfl) (Yv.move rfl (E rfl rfl)) ?_
                refine AWQ.y rfl rfl (B rfl) (Yv.nilChk rfl (E rfl rfl)) ?_
                refine AWQ.y rfl rfl (B rfl) (Yv.fieldBox rfl fo_100_3 (E rfl rfl)) ?_
                refine AWQ.y rfl rfl (B rfl) (Yv.loadBox rfl ag_47 (i := 1) rfl (E rfl rfl) rfl) ?_
                refine AWQ.y rfl rfl (B rfl) (Yv.lenV rfl so_47 (E rfl rfl)) ?_
                refine AWQ.y rfl rfl (B rfl) (Yv.subN_i64 rfl (E rfl rfl) (E rfl rfl) (fun hg => by omega)) ?_
                refine AWQ.y rfl rfl (B rfl) (Yv.indexRow (j := (fs.todo.length - 1)) rfl ss_47 (i := 3) rfl (E rfl rfl) (E rfl rfl) (fun hg => ⟨by omega, by omega⟩)) ?_
                refine AWQ.y rfl rfl (B rfl) (Yv.loadEp rfl ag_3 (i := 3) rfl (E rfl rfl) (fun hg => td_at (by omega))) ?_
                refine AWQ.y rfl rfl (B rfl) (Yv.assign rfl (E rfl rfl)) ?_
                refine AWQ.nil ?_
                refine AW.rowLe 3 rfl (fun htc => ?_)
                refine AW.rseqP rfl ?_
                refine AWP.phase [true, true, true, true, true, true, true, true, true, true, true, true, true, true] 1 rfl (by kernel_rfl) (by kernel_rfl) ?_
                refine AWQ.y rfl rfl (B rfl) (Yv.move rfl (E rfl rfl)) ?_
                refine AWQ.y rfl rfl (B rfl) (Yv.move rfl (E rfl rfl)) ?_
                refine AWQ.y rfl rfl (B rfl) (Yv.nilChk rfl (E rfl rfl)) ?_
                refine AWQ.y rfl rfl (B rfl) (Yv.fieldBox rfl fo_100_3 (E rfl rfl)) ?_
                refine AWQ.y rfl rfl (B rfl) (Yv.loadBox rfl ag_47 (i := 1) rfl (E rfl rfl) rfl) ?_
                refine AWQ.y rfl rfl (B rfl) (Yv.move rfl (E rfl rfl)) ?_
                refine AWQ.y rfl rfl (B rfl) (Yv.nilChk rfl (E rfl rfl)) ?_
                refine AWQ.y rfl rfl (B rfl) (Yv.fieldBox rfl fo_100_3 (E rfl rfl)) ?_
                refine AWQ.y rfl rfl (B rfl) (Yv.loadBox rfl ag_47 (i := 1) rfl (E rfl rfl) rfl) ?_
                refine AWQ.y rfl rfl (B rfl) (Yv.lenV rfl so_47 (E rfl rfl)) ?_
                refine AWQ.y rfl rfl (B rfl) (Yv.subN_i64 rfl (E rfl rfl) (E rfl rfl) (fun hg => by omega)) ?_
                refine AWQ.y rfl rfl (B rfl) (Yv.sliceRow0 (i := 3) (m := (fs.todo.length - 1)) rfl ss_47 rfl (E rfl rfl) (Bound.some_ (E rfl rfl) (fun hg => by omega)) (fun hg => by omega)) ?_
                refine AWQ.y rfl rfl (B rfl) (Yv.nilChk rfl (E rfl rfl)) ?_
                refine AWQ.y rfl rfl (B rfl) (Yv.fieldBox rfl fo_100_3 (E rfl rfl)) ?_
                refine AWQ.nil ?_
                refine AWP.one (i := 14) (by kernel_rfl) rfl ?_
                refine AWL.storeBox (i := 1) rfl rfl rfl ag_47 rfl (E rfl rfl) (E rfl rfl) rfl rfl (Nat.le_of_ble_eq_true rfl) ?_
                refine nl ?_
                refine AWP.done (by kernel_rfl) ?_
                refine AW.shrink 3 (fs.todo.length - 1) rfl (Nat.sub_le _ _) ?_
                refine AW.eqS (S' := .map b10 (lmT (whL f.code)) :: FSt b16 f b10 A14 f.code.length ⟨fs.sls, fs.todo.take (fs.todo.length - 1), fs.tA, fs.tc⟩) (by
                  unfold FSt flCells
                  dsimp only
                  rw [List.map_take, List.length_take, Nat.min_eq_left (Nat.sub_le _ _), Nat.mul_one]
                  rfl) ?_
                refine AW.rseq ?_
                refine Y1 (Yv.move rfl eV) ?_
                refine Y1 (Yv.move rfl eV) ?_
                refine AWL.callAll rfl rfl (B rfl) rfl ce_39 (E rfl rfl) (evsC (E rfl rfl) (evsC (E rfl rfl) evs0)) (step39 p b16 f b10 A14 f.code.length K R ⟨fs.sls, fs.todo.take (fs.todo.length - 1), fs.tA, fs.tc⟩ (fs.todo.getD (fs.todo.length - 1) default) hp hf hRi ⟨hwi.fok.len, hwi.fok.ok, hwi.fok.lenK⟩ rfl hkn (by omega) hK2 hkv (by rw [List.length_take]; omega)) ?_
                rintro t90 S90 ⟨fs2, rfl, hts, rfl⟩
                refine Y1 (Yv.not rfl eV) ?_
                refine nl ?_
                refine AW.cond rfl (fun h4t => ?_) (fun h4f => ?_)
                ·
                  try replace h4t := of_decide_eq_true h4t
                  refine AW.rseq ?_
                  refine Y1 (Yv.assign rfl eV) ?_
                  refine nl ?_
                  refine AW.ret (retI (.tmp rfl .nil) ?_)
                  refine ⟨false, rfl, ⟨fun h => (by cases h), fun h => ?_⟩⟩
                  subst hR
                  exact absurd (hst.1 h) (sf_not hwi.ab hkn hkX (by simpa using h4t))
                ·
                  try replace h4f := of_decide_eq_false h4f
                  refine AW.skip ?_
                  obtain ⟨g1, g2, g3⟩ := WI.round hf rfl (by omega) hwi htd0 hkX (by simpa using h4f) (hts (by simpa using h4f))
                  exact ⟨fs2, ⟨g1, by omega⟩, g3, (Sub.cons rfl rfl Sub.nil), rfl⟩
              ·
                try replace h3f := of_decide_eq_false h3f
                have htd0 : fs.todo.length = 0 := by omega
                refine AW.exit ?_
                refine AW.rseq ?_
                refine Y1 (Yv.assign rfl eV) ?_
                refine nl ?_
                refine AW.ret (retI (.tmp rfl .nil) ?_)
                subst hR
                exact ⟨true, rfl, ⟨fun _ => hst.2 (WI.done rfl hwi htd0), fun _ => rfl⟩⟩
  intro nd111111111
  refine AWP.node (ι := Nat × Option Addr × Nat) 1 #[true, true, true, true, true, true, true, true, false] (fun ⟨b10, A14, b16⟩ => [(16, true, .v (.pointer (some ⟨b16, 0, none⟩))), (1, true, .v (.pointer (some ⟨b1, 0, none⟩)))]) (fun ⟨b10, A14, b16⟩ => (.map b10 [] :: .row A14 f.code.length f.code.length 101 1 (List.replicate f.code.length (([Value.slice none 0 0]).map T.v)).flatten :: .box b16 100 (fnCells f ++ [.v (.map (some b10)), .v (.slice A14 f.code.length f.code.length), .v (.slice none 0 0)]) :: .box b1 51 (fnCells f) :: [])) (fun ⟨b10, A14, b16⟩ => True) ?_ ?_
  ·
    rintro ⟨b10, A14, b16⟩ _
    refine AWP.one (i := 8) (by kernel_rfl) rfl ?_ 
    ·
      refine Y1 (Yv.assign rfl eV) ?_
      refine nl ?_
      exact AWP.to (nd111111111 (b10, A14, b16) trivial) (by kernel_rfl) rfl (Sub.cons rfl rfl (Sub.cons rfl rfl Sub.nil))
  intro nd111111110
  refine AWP.node (ι := Nat × Option Addr) 2 #[true, true, true, true, true, true, true, false, false] (fun ⟨b10, A14⟩ => [(15, true, .agg (fnCells f ++ [.v (.map (some b10)), .v (.slice A14 f.code.length f.code.length), .v (.slice none 0 0)])), (1, true, .v (.pointer (some ⟨b1, 0, none⟩)))]) (fun ⟨b10, A14⟩ => (.map b10 [] :: .row A14 f.code.length f.code.length 101 1 (List.replicate f.code.length (([Value.slice none 0 0]).map T.v)).flatten :: .box b1 51 (fnCells f) :: [])) (fun ⟨b10, A14⟩ => True) ?_ ?_
  ·
    rintro ⟨b10, A14⟩ _
    refine AWP.one (i := 7) (by kernel_rfl) rfl ?_ 
    ·
      refine AWL.boxOp rfl rfl (B rfl) rfl (E rfl rfl) rfl (fun b16 => ?_)
      refine AWL.perm (perm_ins (α := Ent) (F := [.map b10 [], .row A14 f.code.length f.code.length 101 1 (List.replicate f.code.length (([Value.slice none 0 0]).map T.v)).flatten]) (G := (.box b1 51 (fnCells f) :: [])) (x := .box b16 100 (fnCells f ++ [.v (.map (some b10)), .v (.slice A14 f.code.length f.code.length), .v (.slice none 0 0)]))) ?_
      refine nl ?_
      exact AWP.to (nd111111110 (b10, A14, b16) trivial) (by kernel_rfl) rfl (Sub.cons rfl rfl (Sub.cons rfl rfl Sub.nil))
  intro nd111111100
  refine AWP.node (ι := Nat × Option Addr) 3 #[true, true, true, true, true, true, false, false, false] (fun ⟨b10, A14⟩ => [(9, true, .agg (fnCells f)), (10, true, .v (.map (some b10))), (14, true, .v (.slice A14 f.code.length f.code.length)), (1, true, .v (.pointer (some ⟨b1, 0, none⟩)))]) (fun ⟨b10, A14⟩ => (.map b10 [] :: .row A14 f.code.length f.code.length 101 1 (List.replicate f.code.length (([Value.slice none 0 0]).map T.v)).flatten :: .box b1 51 (fnCells f) :: [])) (fun ⟨b10, A14⟩ => True) ?_ ?_
  ·
    rintro ⟨b10, A14⟩ _
    refine AWP.one (i := 6) (by kernel_rfl) rfl ?_ 
    ·
      refine Y1 (Yv.buildS rfl sh_100 (evpC (E rfl rfl) (evpC (E rfl rfl) (evpC (E rfl rfl) evp0))) (fun _ => rfl)) ?_
      refine nl ?_
      exact AWP.to (nd111111100 (b10, A14) trivial) (by kernel_rfl) rfl (Sub.cons rfl rfl (Sub.cons rfl rfl Sub.nil))
  intro nd111111000
  refine AWP.node (ι := Nat) 4 #[true, true, true, true, true, false, false, false, false] (fun b10 => [(9, true, .agg (fnCells f)), (10, true, .v (.map (some b10))), (13, true, .v (.int .i64 (f.code.length : Int))), (1, true, .v (.pointer (some ⟨b1, 0, none⟩)))]) (fun b10 => (.map b10 [] :: .box b1 51 (fnCells f) :: [])) (fun b10 => True) ?_ ?_
  ·
    rintro b10 _
    refine AWP.one (i := 5) (by kernel_rfl) rfl ?_ 
    ·
      refine AWL.makeRow (n := f.code.length) (c := f.code.length) rfl rfl (B rfl) rfl el_98 (E rfl rfl) (E rfl rfl) (Nat.le_refl _) (by omega) (by unfold maxLen; omega) (fun A14 => ?_)
      refine AWL.perm (perm_ins (α := Ent) (F := [.map b10 []]) (G := (.box b1 51 (fnCells f) :: [])) (x := .row A14 f.code.length f.code.length 101 1 (List.replicate f.code.length (([Value.slice none 0 0]).map T.v)).flatten)) ?_
      refine nl ?_
      exact AWP.to (nd111111000 (b10, A14) trivial) (by kernel_rfl) rfl (Sub.cons rfl rfl (Sub.cons rfl rfl (Sub.cons rfl rfl (Sub.cons rfl rfl Sub.nil))))
  intro nd111110000
  refine AWP.node (ι := Option Addr) 4 #[true, false, true, true, true, true, false, false, false] (fun A14 => [(9, true, .agg (fnCells f)), (14, true, .v (.slice A14 f.code.length f.code.length)), (1, true, .v (.pointer (some ⟨b1, 0, none⟩)))]) (fun A14 => (.row A14 f.code.length f.code.length 101 1 (List.replicate f.code.length (([Value.slice none 0 0]).map T.v)).flatten :: .box b1 51 (fnCells f) :: [])) (fun A14 => True) ?_ ?_
  ·
    rintro A14 _
    refine AWP.one (i := 1) (by kernel_rfl) rfl ?_ 
    ·
      refine AWL.makeMapOp rfl rfl (B rfl) rfl (fun b10 => ?_)
      refine AWL.perm (perm_ins (α := Ent) (F := []) (G := (.row A14 f.code.length f.code.length 101 1 (List.replicate f.code.length (([Value.slice none 0 0]).map T.v)).flatten :: .box b1 51 (fnCells f) :: [])) (x := .map b10 [])) ?_
      refine nl ?_
      exact AWP.to (nd111111000 (b10, A14) trivial) (by kernel_rfl) rfl (Sub.cons rfl rfl (Sub.cons rfl rfl (Sub.cons rfl rfl (Sub.cons rfl rfl Sub.nil))))
  intro nd101111000
  refine AWP.node (ι := Nat × Option Addr) 4 #[false, true, true, true, true, true, false, false, false] (fun ⟨b10, A14⟩ => [(10, true, .v (.map (some b10))), (14, true, .v (.slice A14 f.code.length f.code.length)), (1, true, .v (.pointer (some ⟨b1, 0, none⟩)))]) (fun ⟨b10, A14⟩ => (.map b10 [] :: .row A14 f.code.length f.code.length 101 1 (List.replicate f.code.length (([Value.slice none 0 0]).map T.v)).flatten :: .box b1 51 (fnCells f) :: [])) (fun ⟨b10, A14⟩ => True) ?_ ?_
  ·
    rintro ⟨b10, A14⟩ _
    refine AWP.one (i := 0) (by kernel_rfl) rfl ?_ 
    ·
      refine Y1 (Yv.loadBoxA rfl ag_51 (i := 2) rfl (E rfl rfl) rfl rfl) ?_
      refine nl ?_
      exact AWP.to (nd111111000 (b10, A14) trivial) (by kernel_rfl) rfl (Sub.cons rfl rfl (Sub.cons rfl rfl (Sub.cons rfl rfl (Sub.cons rfl rfl Sub.nil))))
  intro nd011111000
  refine AWP.node (ι := Nat) 5 #[true, true, true, true, false, false, false, false, false] (fun b10 => [(9, true, .agg (fnCells f)), (10, true, .v (.map (some b10))), (12, true, .sl 11 (f.code.flatMap insCells)), (1, true, .v (.pointer (some ⟨b1, 0, none⟩)))]) (fun b10 => (.map b10 [] :: .box b1 51 (fnCells f) :: [])) (fun b10 => True) ?_ ?_
  ·
    rintro b10 _
    refine AWP.one (i := 4) (by kernel_rfl) rfl ?_ 
    ·
      refine Y1 (Yv.lenSl rfl so_49 (B rfl) (E rfl rfl) len_code) ?_
      refine nl ?_
      exact AWP.to (nd111110000 b10 trivial) (by kernel_rfl) rfl (Sub.cons rfl rfl (Sub.cons rfl rfl (Sub.cons rfl rfl (Sub.cons rfl rfl Sub.nil))))
  intro nd111100000
  refine AWP.node (ι := Unit) 5 #[true, false, true, true, true, false, false, false, false] (fun _ => [(9, true, .agg (fnCells f)), (13, true, .v (.int .i64 (f.code.length : Int))), (1, true, .v (.pointer (some ⟨b1, 0, none⟩)))]) (fun _ => (.box b1 51 (fnCells f) :: [])) (fun _ => True) ?_ ?_
  ·
    rintro _ _
    refine AWP.two (i := 1) (j := 5) (by kernel_rfl) rfl rfl ?_ ?_ 
    ·
      refine AWL.makeMapOp rfl rfl (B rfl) rfl (fun b10 => ?_)
      refine AWL.perm (perm_ins (α := Ent) (F := []) (G := (.box b1 51 (fnCells f) :: [])) (x := .map b10 [])) ?_
      refine nl ?_
      exact AWP.to (nd111110000 b10 trivial) (by kernel_rfl) rfl (Sub.cons rfl rfl (Sub.cons rfl rfl (Sub.cons rfl rfl (Sub.cons rfl rfl Sub.nil))))
    ·
      refine AWL.makeRow (n := f.code.length) (c := f.code.length) rfl rfl (B rfl) rfl el_98 (E rfl rfl) (E rfl rfl) (Nat.le_refl _) (by omega) (by unfold maxLen; omega) (fun A14 => ?_)
      refine AWL.perm (perm_ins (α := Ent) (F := []) (G := (.box b1 51 (fnCells f) :: [])) (x := .row A14 f.code.length f.code.length 101 1 (List.replicate f.code.length (([Value.slice none 0 0]).map T.v)).flatten)) ?_
      refine nl ?_
      exact AWP.to (nd101111000 A14 trivial) (by kernel_rfl) rfl (Sub.cons rfl rfl (Sub.cons rfl rfl (Sub.cons rfl rfl Sub.nil)))
  intro nd101110000
  refine AWP.node (ι := Nat) 5 #[false, true, true, true, true, false, false, false, false] (fun b10 => [(10, true, .v (.map (some b10))), (13, true, .v (.int .i64 (f.code.length : Int))), (1, true, .v (.pointer (some ⟨b1, 0, none⟩)))]) (fun b10 => (.map b10 [] :: .box b1 51 (fnCells f) :: [])) (fun b10 => True) ?_ ?_
  ·
    rintro b10 _
    refine AWP.two (i := 0) (j := 5) (by kernel_rfl) rfl rfl ?_ ?_ 
    ·
      refine Y1 (Yv.loadBoxA rfl ag_51 (i := 1) rfl (E rfl rfl) rfl rfl) ?_
      refine nl ?_
      exact AWP.to (nd111110000 b10 trivial) (by kernel_rfl) rfl (Sub.cons rfl rfl (Sub.cons rfl rfl (Sub.cons rfl rfl (Sub.cons rfl rfl Sub.nil))))
    ·
      refine AWL.makeRow (n := f.code.length) (c := f.code.length) rfl rfl (B rfl) rfl el_98 (E rfl rfl) (E rfl rfl) (Nat.le_refl _) (by omega) (by unfold maxLen; omega) (fun A14 => ?_)
      refine AWL.perm (perm_ins (α := Ent) (F := [.map b10 []]) (G := (.box b1 51 (fnCells f) :: [])) (x := .row A14 f.code.length f.code.length 101 1 (List.replicate f.code.length (([Value.slice none 0 0]).map T.v)).flatten)) ?_
      refine nl ?_
      exact AWP.to (nd011111000 (b10, A14) trivial) (by kernel_rfl) rfl (Sub.cons rfl rfl (Sub.cons rfl rfl (Sub.cons rfl rfl Sub.nil)))
  intro nd011110000
  refine AWP.node (ι := Option Addr) 5 #[false, false, true, true, true, true, false, false, false] (fun A14 => [(14, true, .v (.slice A14 f.code.length f.code.length)), (1, true, .v (.pointer (some ⟨b1, 0, none⟩)))]) (fun A14 => (.row A14 f.code.length f.code.length 101 1 (List.replicate f.code.length (([Value.slice none 0 0]).map T.v)).flatten :: .box b1 51 (fnCells f) :: [])) (fun A14 => True) ?_ ?_
  ·
    rintro A14 _
    refine AWP.two (i := 0) (j := 1) (by kernel_rfl) rfl rfl ?_ ?_ 
    ·
      refine Y1 (Yv.loadBoxA rfl ag_51 (i := 1) rfl (E rfl rfl) rfl rfl) ?_
      refine nl ?_
      exact AWP.to (nd101111000 A14 trivial) (by kernel_rfl) rfl (Sub.cons rfl rfl (Sub.cons rfl rfl (Sub.cons rfl rfl Sub.nil)))
    ·
      refine AWL.makeMapOp rfl rfl (B rfl) rfl (fun b10 => ?_)
      refine AWL.perm (perm_ins (α := Ent) (F := []) (G := (.row A14 f.code.length f.code.length 101 1 (List.replicate f.code.length (([Value.slice none 0 0]).map T.v)).flatten :: .box b1 51 (fnCells f) :: [])) (x := .map b10 [])) ?_
      refine nl ?_
      exact AWP.to (nd011111000 (b10, A14) trivial) (by kernel_rfl) rfl (Sub.cons rfl rfl (Sub.cons rfl rfl (Sub.cons rfl rfl Sub.nil)))
  intro nd001111000
  refine AWP.node (ι := Nat) 6 #[true, true, true, false, false, false, false, false, false] (fun b10 => [(9, true, .agg (fnCells f)), (10, true, .v (.map (some b10))), (11, true, .v (.pointer (some ⟨b1, 0 + 4, none⟩))), (1, true, .v (.pointer (some ⟨b1, 0, none⟩)))]) (fun b10 => (.map b10 [] :: .box b1 51 (fnCells f) :: [])) (fun b10 => True) ?_ ?_
  ·
    rintro b10 _
    refine AWP.one (i := 3) (by kernel_rfl) rfl ?_ 
    ·
      refine Y1 (Yv.loadBox rfl ag_49 (i := 1) rfl (E rfl rfl) rfl) ?_
      refine nl ?_
      exact AWP.to (nd111100000 b10 trivial) (by kernel_rfl) rfl (Sub.cons rfl rfl (Sub.cons rfl rfl (Sub.cons rfl rfl (Sub.cons rfl rfl Sub.nil))))
  intro nd111000000
  refine AWP.node (ι := Unit) 6 #[true, false, true, true, false, false, false, false, false] (fun _ => [(9, true, .agg (fnCells f)), (12, true, .sl 11 (f.code.flatMap insCells)), (1, true, .v (.pointer (some ⟨b1, 0, none⟩)))]) (fun _ => (.box b1 51 (fnCells f) :: [])) (fun _ => True) ?_ ?_
  ·
    rintro _ _
    refine AWP.two (i := 1) (j := 4) (by kernel_rfl) rfl rfl ?_ ?_ 
    ·
      refine AWL.makeMapOp rfl rfl (B rfl) rfl (fun b10 => ?_)
      refine AWL.perm (perm_ins (α := Ent) (F := []) (G := (.box b1 51 (fnCells f) :: [])) (x := .map b10 [])) ?_
      refine nl ?_
      exact AWP.to (nd111100000 b10 trivial) (by kernel_rfl) rfl (Sub.cons rfl rfl (Sub.cons rfl rfl (Sub.cons rfl rfl (Sub.cons rfl rfl Sub.nil))))
    ·
      refine Y1 (Yv.lenSl rfl so_49 (B rfl) (E rfl rfl) len_code) ?_
      refine nl ?_
      exact AWP.to (nd101110000 () trivial) (by kernel_rfl) rfl (Sub.cons rfl rfl (Sub.cons rfl rfl (Sub.cons rfl rfl Sub.nil)))
  intro nd101100000
  refine AWP.node (ι := Nat) 6 #[false, true, true, true, false, false, false, false, false] (fun b10 => [(10, true, .v (.map (some b10))), (12, true, .sl 11 (f.code.flatMap insCells)), (1, true, .v (.pointer (some ⟨b1, 0, none⟩)))]) (fun b10 => (.map b10 [] :: .box b1 51 (fnCells f) :: [])) (fun b10 => True) ?_ ?_
  ·
    rintro b10 _
    refine AWP.two (i := 0) (j := 4) (by kernel_rfl) rfl rfl ?_ ?_ 
    ·
      refine Y1 (Yv.loadBoxA rfl ag_51 (i := 1) rfl (E rfl rfl) rfl rfl) ?_
      refine nl ?_
      exact AWP.to (nd111100000 b10 trivial) (by kernel_rfl) rfl (Sub.cons rfl rfl (Sub.cons rfl rfl (Sub.cons rfl rfl (Sub.cons rfl rfl Sub.nil))))
    ·
      refine Y1 (Yv.lenSl rfl so_49 (B rfl) (E rfl rfl) len_code) ?_
      refine nl ?_
      exact AWP.to (nd011110000 b10 trivial) (by kernel_rfl) rfl (Sub.cons rfl rfl (Sub.cons rfl rfl (Sub.cons rfl rfl Sub.nil)))
  intro nd011100000
  refine AWP.node (ι := Unit) 6 #[false, false, true, true, true, false, false, false, false] (fun _ => [(13, true, .v (.int .i64 (f.code.length : Int))), (1, true, .v (.pointer (some ⟨b1, 0, none⟩)))]) (fun _ => (.box b1 51 (fnCells f) :: [])) (fun _ => True) ?_ ?_
  ·
    rintro _ _
    refine AWP.three (i := 0) (j := 1) (k := 5) (by kernel_rfl) rfl rfl rfl ?_ ?_ ?_ 
    ·
      refine Y1 (Yv.loadBoxA rfl ag_51 (i := 0) rfl (E rfl rfl) rfl rfl) ?_
      refine nl ?_
      exact AWP.to (nd101110000 () trivial) (by kernel_rfl) rfl (Sub.cons rfl rfl (Sub.cons rfl rfl (Sub.cons rfl rfl Sub.nil)))
    ·
      refine AWL.makeMapOp rfl rfl (B rfl) rfl (fun b10 => ?_)
      refine AWL.perm (perm_ins (α := Ent) (F := []) (G := (.box b1 51 (fnCells f) :: [])) (x := .map b10 [])) ?_
      refine nl ?_
      exact AWP.to (nd011110000 b10 trivial) (by kernel_rfl) rfl (Sub.cons rfl rfl (Sub.cons rfl rfl (Sub.cons rfl rfl Sub.nil)))
    ·
      refine AWL.makeRow (n := f.code.length) (c := f.code.length) rfl rfl (B rfl) rfl el_98 (E rfl rfl) (E rfl rfl) (Nat.le_refl _) (by omega) (by unfold maxLen; omega) (fun A14 => ?_)
      refine AWL.perm (perm_ins (α := Ent) (F := []) (G := (.box b1 51 (fnCells f) :: [])) (x := .row A14 f.code.length f.code.length 101 1 (List.replicate f.code.length (([Value.slice none 0 0]).map T.v)).flatten)) ?_
      refine nl ?_
      exact AWP.to (nd001111000 A14 trivial) (by kernel_rfl) rfl (Sub.cons rfl rfl (Sub.cons rfl rfl Sub.nil))
  intro nd001110000
  refine AWP.node (ι := Unit) 7 #[true, false, true, false, false, false, false, false, false] (fun _ => [(9, true, .agg (fnCells f)), (11, true, .v (.pointer (some ⟨b1, 0 + 4, none⟩))), (1, true, .v (.pointer (some ⟨b1, 0, none⟩)))]) (fun _ => (.box b1 51 (fnCells f) :: [])) (fun _ => True) ?_ ?_
  ·
    rintro _ _
    refine AWP.two (i := 1) (j := 3) (by kernel_rfl) rfl rfl ?_ ?_ 
    ·
      refine AWL.makeMapOp rfl rfl (B rfl) rfl (fun b10 => ?_)
      refine AWL.perm (perm_ins (α := Ent) (F := []) (G := (.box b1 51 (fnCells f) :: [])) (x := .map b10 [])) ?_
      refine nl ?_
      exact AWP.to (nd111000000 b10 trivial) (by kernel_rfl) rfl (Sub.cons rfl rfl (Sub.cons rfl rfl (Sub.cons rfl rfl (Sub.cons rfl rfl Sub.nil))))
    ·
      refine Y1 (Yv.loadBox rfl ag_49 (i := 0) rfl (E rfl rfl) rfl) ?_
      refine nl ?_
      exact AWP.to (nd101100000 () trivial) (by kernel_rfl) rfl (Sub.cons rfl rfl (Sub.cons rfl rfl (Sub.cons rfl rfl Sub.nil)))
  intro nd101000000
  refine AWP.node (ι := Nat) 7 #[false, true, true, false, false, false, false, false, false] (fun b10 => [(10, true, .v (.map (some b10))), (11, true, .v (.pointer (some ⟨b1, 0 + 4, none⟩))), (1, true, .v (.pointer (some ⟨b1, 0, none⟩)))]) (fun b10 => (.map b10 [] :: .box b1 51 (fnCells f) :: [])) (fun b10 => True) ?_ ?_
  ·
    rintro b10 _
    refine AWP.two (i := 0) (j := 3) (by kernel_rfl) rfl rfl ?_ ?_ 
    ·
      refine Y1 (Yv.loadBoxA rfl ag_51 (i := 1) rfl (E rfl rfl) rfl rfl) ?_
      refine nl ?_
      exact AWP.to (nd111000000 b10 trivial) (by kernel_rfl) rfl (Sub.cons rfl rfl (Sub.cons rfl rfl (Sub.cons rfl rfl (Sub.cons rfl rfl Sub.nil))))
    ·
      refine Y1 (Yv.loadBox rfl ag_49 (i := 1) rfl (E rfl rfl) rfl) ?_
      refine nl ?_
      exact AWP.to (nd011100000 b10 trivial) (by kernel_rfl) rfl (Sub.cons rfl rfl (Sub.cons rfl rfl (Sub.cons rfl rfl Sub.nil)))
  intro nd011000000
  refine AWP.node (ι := Unit) 7 #[false, false, true, true, false, false, false, false, false] (fun _ => [(12, true, .sl 11 (f.code.flatMap insCells)), (1, true, .v (.pointer (some ⟨b1, 0, none⟩)))]) (fun _ => (.box b1 51 (fnCells f) :: [])) (fun _ => True) ?_ ?_
  ·
    rintro _ _
    refine AWP.three (i := 0) (j := 1) (k := 4) (by kernel_rfl) rfl rfl rfl ?_ ?_ ?_ 
    ·
      refine Y1 (Yv.loadBoxA rfl ag_51 (i := 0) rfl (E rfl rfl) rfl rfl) ?_
      refine nl ?_
      exact AWP.to (nd101100000 () trivial) (by kernel_rfl) rfl (Sub.cons rfl rfl (Sub.cons rfl rfl (Sub.cons rfl rfl Sub.nil)))
    ·
      refine AWL.makeMapOp rfl rfl (B rfl) rfl (fun b10 => ?_)
      refine AWL.perm (perm_ins (α := Ent) (F := []) (G := (.box b1 51 (fnCells f) :: [])) (x := .map b10 [])) ?_
      refine nl ?_
      exact AWP.to (nd011100000 b10 trivial) (by kernel_rfl) rfl (Sub.cons rfl rfl (Sub.cons rfl rfl (Sub.cons rfl rfl Sub.nil)))
    ·
      refine Y1 (Yv.lenSl rfl so_49 (B rfl) (E rfl rfl) len_code) ?_
      refine nl ?_
      exact AWP.to (nd001110000 () trivial) (by kernel_rfl) rfl (Sub.cons rfl rfl (Sub.cons rfl rfl Sub.nil))
  intro nd001100000
  refine AWP.three (i := 0) (j := 1) (k := 3) (by kernel_rfl) rfl rfl rfl ?_ ?_ ?_ 
  ·
    refine Y1 (Yv.loadBoxA rfl ag_51 (i := 0) rfl (E rfl rfl) rfl rfl) ?_
    refine nl ?_
    exact AWP.to (nd101000000 () trivial) (by kernel_rfl) rfl (Sub.cons rfl rfl (Sub.cons rfl rfl (Sub.cons rfl rfl Sub.nil)))
  ·
    refine AWL.makeMapOp rfl rfl (B rfl) rfl (fun b10 => ?_)
    refine AWL.perm (perm_ins (α := Ent) (F := []) (G := (.box b1 51 (fnCells f) :: [])) (x := .map b10 [])) ?_
    refine nl ?_
    exact AWP.to (nd011000000 b10 trivial) (by kernel_rfl) rfl (Sub.cons rfl rfl (Sub.cons rfl rfl (Sub.cons rfl rfl Sub.nil)))
  ·
    refine Y1 (Yv.loadBox rfl ag_49 (i := 0) rfl (E rfl rfl) rfl) ?_
    refine nl ?_
    exact AWP.to (nd001100000 () trivial) (by kernel_rfl) rfl (Sub.cons rfl rfl (Sub.cons rfl rfl Sub.nil))

theorem strict24 (p : Prog) (f : Fn) (hp : FnIn f) (hf : FnOk p f) : ACalls Try.prog 24 [.agg (fnCells f)] [] (fun t S => ∃ b, t = bv b ∧ (b = true ↔ StrictF f)) := strict24_ p f hp hf _ _ rfl rfl
set_option maxHeartbeats 1000000 in
theorem Strict9 (p : Prog) (hp : ProgIn p) :
    ACalls Try.prog 9 [.agg (progCells p)] [] (fun t S => ∃ b, t = bv b ∧ (b = true ↔ StrictP p)) := by
  have hpf := hp.funs
  have hce := check_eq p
  refine ACalls.intro Try.func9 rfl Try.ntmps9 (Nat.le_of_ble_eq_true rfl) rfl fun X w0 => ?_
  refine AW.rseq ?_
  refine AWL.boxOp rfl rfl (B rfl) rfl (E rfl rfl) rfl (fun b1 => ?_)
  refine Y1 (Yv.assign rfl eV) ?_
  refine nl ?_
  refine AW.seq ?_
  refine AW.rseq ?_
  refine Y1 (Yv.loadBoxA rfl ag_25 (i := 0) rfl (E rfl rfl) rfl rfl) ?_
  refine AWL.callP rfl rfl (B rfl) rfl ce_6 (E rfl rfl) (evsC (E rfl rfl) evs0) (Check6 p hp) (fun t S h => h) ?_
  refine Y1 (Yv.neq rfl eV eV) ?_
  refine nl ?_
  refine AW.cond rfl (fun h0t => ?_) (fun h0f => ?_)
  ·
    try replace h0t := of_decide_eq_true h0t
    have hne : ¬ checkR p = 0 := by rw [← hce]; simpa using h0t
    refine AW.rseq ?_
    refine Y1 (Yv.assign rfl eV) ?_
    refine nl ?_
    refine AW.ret (retI (.tmp rfl .nil) ?_)
    exact ⟨false, rfl, ⟨fun h => (by cases h), fun h => absurd h.1 hne⟩⟩
  ·
    try replace h0f := of_decide_eq_false h0f
    have he0 : checkR p = 0 := by rw [← hce]; simpa using h0f
    have hok := check_good he0
    refine AW.skip ?_
    refine AW.seq ?_
    refine AW.rseq ?_
    refine Y1 (Yv.fieldBox rfl fo_25_0 eV) ?_
    refine Y1 (Yv.loadBox rfl ag_22 (i := 0) rfl (E rfl rfl) rfl) ?_
    refine Y1 (Yv.lenSl rfl so_22 (B rfl) (E rfl rfl) len_funs) ?_
    refine Y1 (Yv.move rfl eV) ?_
    refine nl ?_
    refine AW.block ?_
    refine AW.loop (fun (j : Nat) => [(9, true, .sl 5 (p.funs.flatMap fnCells)), (10, true, .v (.int .i64 (p.funs.length : Int))), (11, true, .v (.int .i64 (j : Int)))]) (fun (j : Nat) => [.box b1 25 (progCells p)]) (fun (j : Nat) => j ≤ p.funs.length ∧ ∀ q, q < j → StrictF (p.funs.getD q default)) (fun (j : Nat) => p.funs.length - j) 0 ?_ ?_ ?_ ?_
    · exact ⟨Nat.zero_le _, fun q hq => absurd hq (Nat.not_lt_zero q)⟩
    · exact (Sub.cons rfl rfl (Sub.cons rfl rfl (Sub.cons rfl rfl Sub.nil)))
    · rfl
    ·
      intro j hinv
      obtain ⟨hj, hst⟩ := hinv
      refine AW.rseq ?_
      refine Y1 (Yv.lss rfl eV eV) ?_
      refine nl ?_
      refine AW.seq ?_
      refine AW.cond rfl (fun h1t => ?_) (fun h1f => ?_)
      ·
        try replace h1t := of_decide_eq_true h1t
        have hj2 : j < p.funs.length := by omega
        refine AW.skip ?_
        refine AW.seq ?_
        refine AW.block ?_
        refine AW.rseq ?_
        refine Y1 (Yv.indexSl rfl ss_22 (B rfl) (E rfl rfl) (E rfl rfl) (fun hg => ⟨rfl, (by first | omega | (simp only [len_code, len_funs, len_args, len_data, len_words]; omega))⟩)) ?_
        refine Y1 (Yv.loadRpA rfl ag_51 (E rfl rfl) (fun hg => fn_cells (by omega))) ?_
        refine AWL.allocOp rfl rfl (B rfl) rfl zc_51 (fun b4 => ?_)
        refine AWL.storeBox (i := 1) rfl rfl rfl ag_51 rfl (E rfl rfl) (E rfl rfl) rfl rfl (Nat.le_of_ble_eq_true rfl) ?_
        refine nl ?_
        refine AW.rseq ?_
        refine Y1 (Yv.loadBoxA rfl ag_51 (i := 1) rfl (E rfl rfl) rfl rfl) ?_
        refine AWL.callT rfl rfl (B rfl) rfl ce_24 (E rfl rfl) (evsC (E rfl rfl) evs0) (strict24 p (p.funs.getD j default) (hp.fn _ (getD_mem hj2)) (hok.fn _ (getD_mem hj2))) ?_
        rintro t16 S16 ⟨b5, rfl, hb5⟩
        refine Y1 (Yv.not rfl eV) ?_
        refine nl ?_
        refine AW.cond rfl (fun h2t => ?_) (fun h2f => ?_)
        ·
          try replace h2t := of_decide_eq_true h2t
          refine AW.rseq ?_
          refine Y1 (Yv.assign rfl eV) ?_
          refine nl ?_
          refine AW.ret (retI (.tmp rfl .nil) ?_)
          exact ⟨false, rfl, ⟨fun h => (by cases h), fun h => absurd (hb5.2 (h.2 _ (getD_mem hj2))) (by simpa using h2t)⟩⟩
        ·
          try replace h2f := of_decide_eq_false h2f
          refine AW.skip ?_
          refine AW.dropAt 1 ?_
          refine AW.region ?_
          refine Y1 (Yv.addN_i64 rfl (E rfl rfl) (E rfl rfl) (fun hg => by omega)) ?_
          refine Y1 (Yv.move rfl eV) ?_
          refine nl ?_
          refine ⟨j + 1, ⟨by omega, fun q hq => ?_⟩, by omega, (Sub.cons rfl rfl (Sub.cons rfl rfl (Sub.cons rfl (by simp) Sub.nil))), rfl⟩
          rcases Nat.lt_or_ge q j with h | h
          · exact hst q h
          · obtain rfl : q = j := by omega
            exact hb5.1 (by simpa using h2f)
      ·
        try replace h1f := of_decide_eq_false h1f
        refine AW.exit ?_
        refine AW.rseq ?_
        refine Y1 (Yv.assign rfl eV) ?_
        refine nl ?_
        refine AW.ret (retI (.tmp rfl .nil) ?_)
        exact ⟨true, rfl, ⟨fun _ => ⟨he0, fun g hg => by
          obtain ⟨q, hq, rfl⟩ := List.mem_iff_getElem.1 hg
          rw [← gd hq]; exact hst q (by omega)⟩, fun _ => rfl⟩⟩

end Go.Proofs.Ytlfklgganokgdaa

namespace Go.Proofs.Ytlfklgganokgdaa
open Go Go.RowKit
set_option linter.unusedVariables false
set_option linter.unusedSimpArgs false
section
variable {cx : Cx} {env : Env} {S : St} {o : Oper} {ops : Array Oper} {l : List Oper} {K : Env → St → Prop} {Q : Exit → Env → St → Prop}
theorem Sim.freezeRow {a : Act} {w : World} (hs : Sim cx env S a w) {i j p n c k n2 c2 k2 : Nat} {A A2 : Option Addr} {e e2 : TypeId} {cs bs : List T} (hi : S[i]? = some (.row A n c e k cs)) (hk : 0 < k) (hj : (S.eraseIdx i)[j]? = some (.row A2 n2 c2 e2 k2 bs)) (hp : bs[p]? = some (.v (.slice A n c))) :
    Sim cx env ((S.eraseIdx i).set j (.row A2 n2 c2 e2 k2 (bs.set p (.sl k cs)))) a w := by
  obtain ⟨h1, h2⟩ := hs.freeze hi hk
  obtain ⟨us, hh, hV⟩ := h1.row hj
  refine h1.setEnt hj rfl (fun _ _ _ => rfl) rfl rfl rfl rfl ⟨us, hh, ?_⟩
  obtain ⟨u, e1, e2, e3⟩ := hV.get hp
  obtain rfl := e2.v_inv
  have := hV.set p h2 e3
  have hu : us.set p (.slice A n c) = us := by
    apply List.ext_getElem?
    intro q
    rw [List.getElem?_set]
    split
    · rename_i hq
      subst hq
      rw [e1]
      split
      · rfl
      · rename_i hn
        rw [List.getElem?_eq_none (by omega)] at e1
        cases e1
    · rfl
  rwa [hu] at this
theorem AW.freezeRow {code : Code} {n c k n2 c2 k2 : Nat} {A A2 : Option Addr} {e e2 : TypeId} {cs bs : List T} (i j p : Nat) (hi : S[i]? = some (.row A n c e k cs)) (hk : 0 < k) (hj : (S.eraseIdx i)[j]? = some (.row A2 n2 c2 e2 k2 bs)) (hp : bs[p]? = some (.v (.slice A n c))) (h : AW cx code Q env ((S.eraseIdx i).set j (.row A2 n2 c2 e2 k2 (bs.set p (.sl k cs))))) : AW cx code Q env S := fun a w hs => h a w (hs.freezeRow hi hk hj hp)
end
/-! ### cells that a region does not write: their loads are taken first -/
def HeldCs (l : List (Nat × Nat × Value)) (w : World) : Prop := ∀ q ∈ l, w.cell? ⟨q.1, q.2.1, none⟩ = some q.2.2
def Pin (t : T) (u : Value) : Prop := ∀ w L v, VRep w L t v → v = u
theorem pinV {u : Value} : Pin (.v u) u := fun _ _ _ h => h.v_inv
theorem pinE {g n c off : Nat} : Pin (.ep (.slice (some ⟨g, 0, none⟩) n c) off) (.pointer (some ⟨g, off, none⟩)) := fun _ _ _ h => by
  cases h with
  | ep => rfl
def tellE (e : Ent) (q : Nat × Nat × Value) : Prop :=
  match e with
  | .box b _ cs => b = q.1 ∧ ∃ t, cs[q.2.1]? = some t ∧ Pin t q.2.2
  | .row A _ _ _ _ cs => A = some ⟨q.1, 0, none⟩ ∧ ∃ t, cs[q.2.1]? = some t ∧ Pin t q.2.2
  | _ => False
def TellsC (S : St) (l : List (Nat × Nat × Value)) : Prop := ∀ q ∈ l, ∃ e ∈ S, tellE e q
theorem tc0 {S : St} : TellsC S [] := fun _ h => by cases h
theorem tcB {S : St} {l : List (Nat × Nat × Value)} {b p : Nat} {ty : TypeId} {cs : List T} {t : T} {u : Value} (k : Nat) (hk : S[k]? = some (.box b ty cs)) (hp : cs[p]? = some t) (hu : Pin t u) (h : TellsC S l) : TellsC S ((b, p, u) :: l) := fun q hq => by
  rcases List.mem_cons.1 hq with rfl | hq
  · exact ⟨_, List.mem_of_getElem? hk, rfl, t, hp, hu⟩
  · exact h q hq
theorem tcR {S : St} {l : List (Nat × Nat × Value)} {g n c k p : Nat} {e : TypeId} {cs : List T} {t : T} {u : Value} (i : Nat) (hk : S[i]? = some (.row (some ⟨g, 0, none⟩) n c e k cs)) (hp : cs[p]? = some t) (hu : Pin t u) (h : TellsC S l) : TellsC S ((g, p, u) :: l) := fun q hq => by
  rcases List.mem_cons.1 hq with rfl | hq
  · exact ⟨_, List.mem_of_getElem? hk, rfl, t, hp, hu⟩
  · exact h q hq
section
variable {cx : Cx} {env : Env} {S : St} {o : Oper} {x : Operand} {ops : Array Oper} {K : Env → St → Prop} {Hd : World → Prop} {d : Nat}
theorem tells_cs {l : List (Nat × Nat × Value)} (h : TellsC S l) : Tells cx (HeldCs l) env S := fun a w hs q hq => by
  obtain ⟨e, he, ht⟩ := h q hq
  obtain ⟨i, hi⟩ := List.getElem?_of_mem he
  cases e with
  | box b ty cs =>
    obtain ⟨rfl, t, h1, h2⟩ := ht
    obtain ⟨us, hh, hV⟩ := hs.box hi
    obtain ⟨u, g1, g2, _⟩ := hV.get h1
    rw [cell_of_heap hh, g1, h2 _ _ _ g2]
  | row A n c e k cs =>
    obtain ⟨rfl, t, h1, h2⟩ := ht
    obtain ⟨us, hr, hV⟩ := hs.row hi
    obtain ⟨u, g1, g2, _⟩ := hV.get h1
    rw [hr.cell g1, h2 _ _ _ g2]
  | _ => exact ht.elim
/-- A load from a box, of a cell that is held. -/
theorem heldB {l : List (Nat × Nat × Value)} {b p n : Nat} {t : TypeId} {u : Value} {r : T} (j : Nat) (ho : o.op = .load t x) (h : aggSize cx.P t = some (false, n)) (hx : Ev env true x (.v (.pointer (some ⟨b, p, none⟩)))) (hu : l[j]? = some (b, p, u)) (ht : ∀ w L, VRep w L r u) :
    ∀ a w, Sim cx env S a w → ∃ u', VRep w (cx.X ++ M S) r u' ∧ ∀ w', HeldCs l w' → (execOp a.eval o).run cx.P w' = .ok (.value u') w' := fun a w hs =>
  ⟨u, ht _ _, fun w' hd => exec_load ho w' (by rw [hx.val hs rfl]; exact run_loadAt_one h w' (hd _ (List.mem_of_getElem? hu)))⟩
/-- .. from a row. -/
theorem heldE {l : List (Nat × Nat × Value)} {g m c p n : Nat} {t : TypeId} {u : Value} {r : T} (j : Nat) (ho : o.op = .load t x) (h : aggSize cx.P t = some (false, n)) (hx : Ev env true x (.ep (.slice (some ⟨g, 0, none⟩) m c) p)) (hu : l[j]? = some (g, p, u)) (ht : ∀ w L, VRep w L r u) :
    ∀ a w, Sim cx env S a w → ∃ u', VRep w (cx.X ++ M S) r u' ∧ ∀ w', HeldCs l w' → (execOp a.eval o).run cx.P w' = .ok (.value u') w' := fun a w hs =>
  ⟨u, ht _ _, fun w' hd => exec_load ho w' (by
    have hv := hx.rep hs rfl
    generalize a.eval x = v at hv
    rw [pinE _ _ _ hv]
    exact run_loadAt_one h w' (hd _ (List.mem_of_getElem? hu)))⟩
theorem AWH.tkN {fuel i : Nat} {listed : Array Bool} {t : T} (hi : ops[i]? = some o) (hs : Region.noSelect ops = true) (hf : Region.free .any ops listed i = true) (hr : (Region.ready .any ops listed).contains i = true) (hg : o.guard = none) (hd : o.dst = some d) (hN : d < cx.N)
    (hy : ∀ a w, Sim cx env S a w → ∃ u, VRep w (cx.X ++ M S) t u ∧ ∀ w', (execOp a.eval o).run cx.P w' = .ok (.value u) w') (h : AWH cx ops Hd fuel (listed.setIfInBounds i true) K ((d, true, t) :: env) S) : AWH cx ops Hd (fuel + 1) listed K env S := AWH.take hi hs hf hr hg hd hN (heldAll hy) h
theorem AWH.node {fuel : Nat} {listed : Array Bool} {ι : Type} (fuel' : Nat) (listed' : Array Bool) (E : ι → Env) (H : ι → St) (inv : ι → Prop) (h2 : ∀ y, inv y → AWH cx ops Hd fuel' listed' K (E y) (H y)) (h1 : (∀ y, inv y → AWH cx ops Hd fuel' listed' K (E y) (H y)) → AWH cx ops Hd fuel listed K env S) : AWH cx ops Hd fuel listed K env S := h1 h2
theorem AWH.to {fuel : Nat} {listed listed' : Array Bool} {env' : Env} {S' : St} (h : AWH cx ops Hd fuel listed' K env' S') (hl : listed = listed') (hs : S = S') (hsub : Sub env' env) : AWH cx ops Hd fuel listed K env S := by
  subst hl; subst hs
  exact fun a w hs => h a w (hs.weaken hsub)
abbrev AWT (cx : Cx) (ops : Array Oper) (Hd : World → Prop) (fuel i : Nat) (listed : Array Bool) (K : Env → St → Prop) (o : Oper) (env : Env) (S : St) : Prop := AWL cx ops [o] (fun env S => Tells cx Hd env S ∧ AWH cx ops Hd fuel (listed.setIfInBounds i true) K env S) env S
theorem AWH.four {o0 o1 o2 o3 : Oper} {fuel i0 i1 i2 i3 : Nat} {listed : Array Bool} (hr : Region.ready .any ops listed = [i0, i1, i2, i3]) (e0 : ops[i0]? = some o0) (e1 : ops[i1]? = some o1) (e2 : ops[i2]? = some o2) (e3 : ops[i3]? = some o3)
    (h0 : AWT cx ops Hd fuel i0 listed K o0 env S) (h1 : AWT cx ops Hd fuel i1 listed K o1 env S) (h2 : AWT cx ops Hd fuel i2 listed K o2 env S) (h3 : AWT cx ops Hd fuel i3 listed K o3 env S) : AWH cx ops Hd (fuel + 1) listed K env S := by
  intro a w hs hd
  refine wpAnyH_all hr (by simp) fun q hq => ?_
  simp only [List.mem_cons, List.not_mem_nil, or_false] at hq
  rcases hq with rfl | rfl | rfl | rfl
  · exact wpOp_of_AWL e0 h0 (fun _ _ a w h1 h2 => ⟨h1.1 a w h2, h1.2 a w h2 (h1.1 a w h2)⟩) hs
  · exact wpOp_of_AWL e1 h1 (fun _ _ a w h1 h2 => ⟨h1.1 a w h2, h1.2 a w h2 (h1.1 a w h2)⟩) hs
  · exact wpOp_of_AWL e2 h2 (fun _ _ a w h1 h2 => ⟨h1.1 a w h2, h1.2 a w h2 (h1.1 a w h2)⟩) hs
  · exact wpOp_of_AWL e3 h3 (fun _ _ a w h1 h2 => ⟨h1.1 a w h2, h1.2 a w h2 (h1.1 a w h2)⟩) hs
theorem AWH.five {o0 o1 o2 o3 o4 : Oper} {fuel i0 i1 i2 i3 i4 : Nat} {listed : Array Bool} (hr : Region.ready .any ops listed = [i0, i1, i2, i3, i4]) (e0 : ops[i0]? = some o0) (e1 : ops[i1]? = some o1) (e2 : ops[i2]? = some o2) (e3 : ops[i3]? = some o3) (e4 : ops[i4]? = some o4)
    (h0 : AWT cx ops Hd fuel i0 listed K o0 env S) (h1 : AWT cx ops Hd fuel i1 listed K o1 env S) (h2 : AWT cx ops Hd fuel i2 listed K o2 env S) (h3 : AWT cx ops Hd fuel i3 listed K o3 env S) (h4 : AWT cx ops Hd fuel i4 listed K o4 env S) : AWH cx ops Hd (fuel + 1) listed K env S := by
  intro a w hs hd
  refine wpAnyH_all hr (by simp) fun q hq => ?_
  simp only [List.mem_cons, List.not_mem_nil, or_false] at hq
  rcases hq with rfl | rfl | rfl | rfl | rfl
  · exact wpOp_of_AWL e0 h0 (fun _ _ a w h1 h2 => ⟨h1.1 a w h2, h1.2 a w h2 (h1.1 a w h2)⟩) hs
  · exact wpOp_of_AWL e1 h1 (fun _ _ a w h1 h2 => ⟨h1.1 a w h2, h1.2 a w h2 (h1.1 a w h2)⟩) hs
  · exact wpOp_of_AWL e2 h2 (fun _ _ a w h1 h2 => ⟨h1.1 a w h2, h1.2 a w h2 (h1.1 a w h2)⟩) hs
  · exact wpOp_of_AWL e3 h3 (fun _ _ a w h1 h2 => ⟨h1.1 a w h2, h1.2 a w h2 (h1.1 a w h2)⟩) hs
  · exact wpOp_of_AWL e4 h4 (fun _ _ a w h1 h2 => ⟨h1.1 a w h2, h1.2 a w h2 (h1.1 a w h2)⟩) hs
theorem kpH {fuel i : Nat} {listed : Array Bool} {l : List (Nat × Nat × Value)} (h1 : TellsC S l) (h : AWH cx ops (HeldCs l) fuel (listed.setIfInBounds i true) K env S) : Tells cx (HeldCs l) env S ∧ AWH cx ops (HeldCs l) fuel (listed.setIfInBounds i true) K env S := ⟨tells_cs h1, h⟩
end
section
variable {cx : Cx} {env : Env} {S : St} {ops : Array Oper} {l : List Oper} {K : Env → St → Prop} {Q : Exit → Env → St → Prop}
theorem AW.rowSome {code : Code} {n c k : Nat} {A : Option Addr} {e : TypeId} {cs : List T} (i : Nat) (hi : S[i]? = some (.row A n c e k cs)) (hn : 0 < n * k) (h : ∀ g, A = some ⟨g, 0, none⟩ → AW cx code Q env S) : AW cx code Q env S := fun a w hs => by
  obtain ⟨us, hr, hV⟩ := hs.row hi
  obtain ⟨gb, e⟩ := hr.some (by rw [hr.1]; exact hn)
  exact h gb e a w hs
theorem AWL.rowSome {n c k : Nat} {A : Option Addr} {e : TypeId} {cs : List T} (i : Nat) (hi : S[i]? = some (.row A n c e k cs)) (hn : 0 < n * k) (h : ∀ g, A = some ⟨g, 0, none⟩ → AWL cx ops l K env S) : AWL cx ops l K env S := fun a w hs => by
  obtain ⟨us, hr, hV⟩ := hs.row hi
  obtain ⟨gb, e⟩ := hr.some (by rw [hr.1]; exact hn)
  exact h gb e a w hs
theorem AWL.eqLast {n c k : Nat} {A : Option Addr} {e : TypeId} {cs cs' : List T} (h : cs = cs') (hr : AWL cx ops l K env (S ++ [.row A n c e k cs'])) : AWL cx ops l K env (S ++ [.row A n c e k cs]) := h ▸ hr
end
section
variable {cx : Cx} {env : Env} {S : St} {o : Oper} {g : Bool} {x y : Operand}
theorem Yv.nilChkEp {b n c p : Nat} (ho : o.op = .nilCheck x) (hx : Ev env g x (.ep (.slice (some ⟨b, 0, none⟩) n c) p)) : Yv cx o env S g (.ep (.slice (some ⟨b, 0, none⟩) n c) p) := fun a w hs hg => by
  have hv := hx.rep hs hg
  refine ⟨_, hv, fun w' _ => ?_⟩
  have e := pinE _ _ _ hv
  simp [execOp, ho, e, Sem.run_pure]
theorem freeNilEp {b n c p : Nat} (ho : o.op = .nilCheck x) (hx : Ev env true x (.ep (.slice (some ⟨b, 0, none⟩) n c) p)) : ∀ a w, Sim cx env S a w → ∃ u, VRep w (cx.X ++ M S) (.ep (.slice (some ⟨b, 0, none⟩) n c) p) u ∧ ∀ w', (execOp a.eval o).run cx.P w' = .ok (.value u) w' := fun a w hs => by
  have hv := hx.rep hs rfl
  refine ⟨_, hv, fun w' => ?_⟩
  have e := pinE _ _ _ hv
  simp [execOp, ho, e, Sem.run_pure]
end
/-- A contract over trees that say less serves for those that say more. -/
theorem ACalls.le {P : Program} {f : FuncId} {ts ts' : List T} {S0 : St} {R : T → St → Prop} (h : ACalls P f ts' S0 R) (hl : Les ts ts') : ACalls P f ts S0 R :=
  fun X w args h1 h2 h3 h4 h5 => h X w args h1 h2 h3 (h4.trans hl.len) fun j t' u ht hu => by
    have hj : j < ts.length := by
      rw [hl.len]
      exact (List.getElem?_eq_some_iff.1 ht).1
    exact hl.at_ j _ _ (List.getElem?_eq_getElem hj) ht _ _ _ (h5 j _ u (List.getElem?_eq_getElem hj) hu)
end Go.Proofs.Ytlfklgganokgdaa

namespace Go.Proofs.Ytlfklgganokgdaa
open Go Go.RowKit
set_option linter.unusedSimpArgs false
set_option linter.unusedVariables false
def nilT : T := .v (.slice none 0 0)
def insRaw (k d a b imm : Int) : List T := [zi k, zi d, zi a, zi b, zi 0, zi 0, zi 0, zi 0, zi 0, zi imm, nilT]
def mkIns (k d a b imm : Int) : Ins := ⟨k, d, a, b, 0, 0, 0, 0, 0, imm, []⟩
/-- 5 - 7. -/
def little : Prog := ⟨[⟨[109, 97, 105, 110], 0, 3, 0, [mkIns 1 0 0 0 5, mkIns 1 1 0 0 7, mkIns 4 2 0 1 0, mkIns 26 0 2 0 0]⟩], [], 0⟩
def littleRaw : T := .agg [.sl 5 [sv [109, 97, 105, 110], zi 0, zi 3, zi 0, .sl 11 (insRaw 1 0 0 0 5 ++ insRaw 1 1 0 0 7 ++ insRaw 4 2 0 1 0 ++ insRaw 26 0 2 0 0)], nilT, zi 0]
theorem nil_le (k : Nat) : Le nilT (.sl k []) := nil_sl (by unfold maxLen; omega)
theorem ins_le (k d a b imm : Int) : Les (insRaw k d a b imm) (insCells (mkIns k d a b imm)) :=
  .cons .refl (.cons .refl (.cons .refl (.cons .refl (.cons .refl (.cons .refl (.cons .refl (.cons .refl (.cons .refl (.cons .refl (.cons (nil_le 1) .refl))))))))))
theorem little_le : Le littleRaw (.agg (progCells little)) := by
  refine Le.agg (.cons (Le.sl ?_) (.cons (nil_le 1) .refl))
  refine .cons .refl (.cons .refl (.cons .refl (.cons .refl (.cons (Le.sl ?_) .refl))))
  exact ((((ins_le 1 0 0 0 5).append (ins_le 1 1 0 0 7)).append (ins_le 4 2 0 1 0)).append (ins_le 26 0 2 0 0))
theorem little_in : ProgIn little := by
  refine ⟨by decide, by decide, fun f hf => ?_, by decide, by decide, by decide⟩
  cases List.mem_singleton.1 hf
  exact ⟨by decide, by decide, by decide, fun i hi => by
    simp only [List.mem_cons, List.not_mem_nil, or_false] at hi
    rcases hi with rfl | rfl | rfl | rfl <;> exact ⟨by decide, by decide, by decide⟩⟩
theorem set_same {l : List Fn} {j : Nat} (h : j < l.length) (t : T) : ((l.flatMap fnCells).set (j * 5 + 4) t).set (j * 5 + 4) (.sl 11 ((l.getD j default).code.flatMap insCells)) = l.flatMap fnCells := by
  rw [List.set_set]
  have h1 : (l.flatMap fnCells)[j * 5 + 4]? = some (.sl 11 ((l.getD j default).code.flatMap insCells)) := flat_at fk h 4 (by decide)
  have h2 : j * 5 + 4 < (l.flatMap fnCells).length := by rw [len_funs]; omega
  rw [List.getElem?_eq_getElem h2] at h1
  rw [← Option.some.inj h1, List.set_getElem_self]
theorem set_args {l : List Ins} {j : Nat} (h : j < l.length) : (l.flatMap insCells).set (j * 11 + 10) (.sl 1 ((l.getD j default).args.map zi)) = l.flatMap insCells := by
  have h1 : (l.flatMap insCells)[j * 11 + 10]? = some (.sl 1 ((l.getD j default).args.map zi)) := flat_at ik h 10 (by decide)
  have h2 : j * 11 + 10 < (l.flatMap insCells).length := by rw [len_code]; omega
  rw [List.getElem?_eq_getElem h2] at h1
  rw [← Option.some.inj h1, List.set_getElem_self]
theorem set_get {l : List T} {j : Nat} (t : T) (h : j < l.length) : (l.set j t)[j]? = some t := by rw [List.getElem?_set_self h]
theorem iargs_at {l : List Ins} {j : Nat} (h : j < l.length) : (l.flatMap insCells)[j * 11 + 10]? = some (.sl 1 ((l.getD j default).args.map zi)) := flat_at ik h 10 (by decide)
/-! ### how great a program is -/
def bigF (f : Fn) (n : Int) : Bool := ((decide (4000 < f.regs) || decide (4000 < f.slots)) || decide ((4000 : Int) < f.code.length)) || decide (4000 < n)
def addF (f : Fn) (n : Int) : Int := IntKind.i64.wrap (IntKind.i64.wrap (IntKind.i64.wrap (n + f.regs) + f.slots) + (f.code.length : Int))
def sizeF : List Fn → Int → Int
  | [], n => n
  | f :: r, n => if bigF f n = true then 5000 else sizeF r (addF f n)
theorem size_drop {l : List Fn} {j : Nat} (h : j < l.length) (n : Int) : sizeF (l.drop j) n = if bigF (l.getD j default) n = true then 5000 else sizeF (l.drop (j + 1)) (addF (l.getD j default) n) := by
  rw [List.drop_eq_getElem_cons h, sizeF, gd h]
/-! ### a process -/
/-- What a process holds beside its open calls. -/
structure PS where
  prog : Prog
  lab : T
  heap : Wd64
  strict : Bool
  w : T
  pages : T
  ent : Bool
  st : Int
  ans : Wd64
  code : Int
  steps : Int
def psC (x : PS) (cl : T) : List T := [.sl 5 (x.prog.funs.flatMap fnCells), .sl 1 (x.prog.data.map u8), zi x.prog.zero, x.lab, zw x.heap, bv x.strict, x.w, x.pages, cl, bv x.ent, zi x.st, zw x.ans, zi x.code, zi x.steps]
/-- An open call; where its rows lie. -/
structure Fr where
  f : Int
  at_ : Int
  nr : Nat
  ns : Nat
  r : List Wd64
  slot : List Wd64
  set : List Bool
  there : List Bool
  d : Int
structure FA where
  r : Option Addr
  s : Option Addr
  t : Option Addr
  h : Option Addr
def frC (x : Fr) (a : FA) : List T := [zi x.f, zi x.at_, .v (.slice a.r x.nr x.nr), .v (.slice a.s x.ns x.ns), .v (.slice a.t x.nr x.nr), .v (.slice a.h x.ns x.ns), zi x.d]
def frR (x : Fr) (a : FA) : St := [.row a.r x.nr x.nr 39 1 (x.r.map zw), .row a.s x.ns x.ns 39 1 (x.slot.map zw), .row a.t x.nr x.nr 4 1 (x.set.map bv), .row a.h x.ns x.ns 4 1 (x.there.map bv)]
def rJ (args : List Wd64) (R j : Nat) : List Wd64 := args.take j ++ List.replicate (R - j) 0#64
def sJ (R j : Nat) : List Bool := List.replicate j true ++ List.replicate (R - j) false
def openFr (f : Fn) (fi : Int) (args : List Wd64) (d : Int) : Fr :=
  ⟨fi, 0, f.regs.toNat, f.slots.toNat, rJ args f.regs.toNat args.length, List.replicate f.slots.toNat 0#64, sJ f.regs.toNat args.length, List.replicate f.slots.toNat false, d⟩
theorem mk_rep (n : Nat) (u : Value) : (List.replicate n ([u].map T.v)).flatten = List.replicate n (T.v u) := by
  induction n with
  | zero => rfl
  | succ n ih => rw [List.replicate_succ, List.flatten_cons, ih]; rfl
theorem zero_r (args : List Wd64) (R : Nat) : (List.replicate R ([Value.int .u64 0].map T.v)).flatten = (rJ args R 0).map zw := by
  rw [mk_rep]; simp [rJ, zw]
theorem zero_s (R : Nat) : (List.replicate R ([Value.bool false].map T.v)).flatten = (sJ R 0).map bv := by
  rw [mk_rep]; simp [sJ, bv]
theorem zero_b (R : Nat) : (List.replicate R ([Value.bool false].map T.v)).flatten = (List.replicate R false).map bv := by
  rw [mk_rep]; simp [bv]
theorem rj_len {args : List Wd64} {R j : Nat} (h : j ≤ args.length) (hR : args.length ≤ R) : (rJ args R j).length = R := by
  unfold rJ; rw [List.length_append, List.length_take, List.length_replicate]; omega
theorem sj_len {R j : Nat} (h : j ≤ R) : (sJ R j).length = R := by
  unfold sJ; rw [List.length_append, List.length_replicate, List.length_replicate]; omega
theorem rj_succ {args : List Wd64} {R j : Nat} (h : j < args.length) (hR : args.length ≤ R) : ((rJ args R j).map zw).set (j * 1) (zw (args.getD j 0#64)) = (rJ args R (j + 1)).map zw := by
  rw [Nat.mul_one, ← List.map_set]
  congr 1
  unfold rJ
  rw [show args.take (j + 1) = args.take j ++ [args.getD j 0#64] from take_gd h, show R - j = (R - (j + 1)) + 1 by omega, List.replicate_succ, List.set_append_right _ _ (by rw [List.length_take]; omega), List.length_take, Nat.min_eq_left (Nat.le_of_lt h), Nat.sub_self, List.append_assoc]
  rfl
theorem sj_succ {R j : Nat} (hR : j < R) : ((sJ R j).map bv).set (j * 1) (bv true) = (sJ R (j + 1)).map bv := by
  rw [Nat.mul_one, ← List.map_set]
  congr 1
  unfold sJ
  rw [show R - j = (R - (j + 1)) + 1 by omega, List.replicate_succ, List.set_append_right _ _ (by rw [List.length_replicate]; exact Nat.le_refl _), List.length_replicate, Nat.sub_self, List.replicate_succ', List.append_assoc]
  rfl
theorem bool_at {l : List Bool} {j : Nat} (h : j < l.length) : (l.map bv)[j * 1 + 0]? = some (bv (l.getD j default)) := by
  rw [Nat.mul_one, Nat.add_zero, List.getElem?_map, List.getElem?_eq_getElem h, gd h]; rfl
theorem len_zw {l : List Wd64} : (l.map zw).length = l.length * 1 := by simp
end Go.Proofs.Ytlfklgganokgdaa

namespace Go.Proofs.Ytlfklgganokgdaa
open Go Go.RowKit
set_option linter.unusedVariables false
set_option linter.unnecessarySimpa false
set_option linter.unusedSimpArgs false

set_option maxHeartbeats 400000 in
theorem clone45R (l : List Fn) (h1 : l.length ≤ 1048576) :
    ACalls Try.prog 45 [.sl 5 (l.flatMap fnCells)] [] (fun t S => ∃ A c, t = .v (.slice A l.length c) ∧ S = [.row A l.length c 51 5 (l.flatMap fnCells)]) := by
  refine ACalls.intro Try.func45 rfl Try.ntmps45 (Nat.le_of_ble_eq_true rfl) rfl fun X w0 => ?_
  refine AW.rseq ?_
  refine Y1 (Yv.assign rfl eV) ?_
  refine nl ?_
  refine AW.seq ?_
  refine AW.rseq ?_
  refine Y1 (Yv.move rfl eV) ?_
  refine AWL.yx rfl rfl (B rfl) (Yx.eqNil rfl so_22 (E rfl rfl)) ?_
  rintro t4 ⟨v4, rfl, hnil4⟩
  refine nl ?_
  refine AW.cond rfl (fun h0t => ?_) (fun h0f => ?_)
  ·
    try replace h0t := of_decide_eq_true h0t
    refine AW.rseq ?_
    refine Y1 (Yv.assign rfl eV) ?_
    refine nl ?_
    refine AW.rowNil 51 5 ?_
    refine AW.ret (retI (.tmp rfl .nil) ?_)
    have hb : l = [] := by
      cases hq : l with
      | nil => rfl
      | cons a r => rw [hq] at hnil4; exact absurd (hnil4 h0t) (by intro h; have := congrArg List.length h; simp [List.flatMap_cons, fnCells, insCells] at this)
    subst hb
    exact ⟨none, 0, rfl, rfl⟩
  ·
    try replace h0f := of_decide_eq_false h0f
    refine AW.skip ?_
    refine AW.rseq ?_
    refine AWL.buildSliceRow rfl rfl (B rfl) rfl el_22 (B rfl) rfl evs0 (Nat.le_of_ble_eq_true rfl) rfl rfl (fun A5 => ?_)
    refine Y1 (Yv.move rfl eV) ?_
    refine AWL.appendRow (i := 0) rfl rfl (B rfl) rfl el_22 (B rfl) rfl (E rfl rfl) (SrcT.sl so_22 (B rfl) (E rfl rfl) len_funs) (by unfold maxLen; omega) (by omega) (fun A7 c7 => ?_)
    refine Y1 (Yv.assign rfl eV) ?_
    refine nl ?_
    refine AW.ret (retI (.tmp rfl .nil) ?_)
    exact ⟨A7, c7, by rw [Nat.zero_add]; rfl, by rw [Nat.zero_add]; rfl⟩

set_option maxHeartbeats 400000 in
theorem clone46R (l : List Ins) (h1 : l.length ≤ 1048576) :
    ACalls Try.prog 46 [.sl 11 (l.flatMap insCells)] [] (fun t S => ∃ A c, t = .v (.slice A l.length c) ∧ S = [.row A l.length c 58 11 (l.flatMap insCells)]) := by
  refine ACalls.intro Try.func46 rfl Try.ntmps46 (Nat.le_of_ble_eq_true rfl) rfl fun X w0 => ?_
  refine AW.rseq ?_
  refine Y1 (Yv.assign rfl eV) ?_
  refine nl ?_
  refine AW.seq ?_
  refine AW.rseq ?_
  refine Y1 (Yv.move rfl eV) ?_
  refine AWL.yx rfl rfl (B rfl) (Yx.eqNil rfl so_49 (E rfl rfl)) ?_
  rintro t4 ⟨v4, rfl, hnil4⟩
  refine nl ?_
  refine AW.cond rfl (fun h0t => ?_) (fun h0f => ?_)
  ·
    try replace h0t := of_decide_eq_true h0t
    refine AW.rseq ?_
    refine Y1 (Yv.assign rfl eV) ?_
    refine nl ?_
    refine AW.rowNil 58 11 ?_
    refine AW.ret (retI (.tmp rfl .nil) ?_)
    have hb : l = [] := by
      cases hq : l with
      | nil => rfl
      | cons a r => rw [hq] at hnil4; exact absurd (hnil4 h0t) (by intro h; have := congrArg List.length h; simp [List.flatMap_cons, fnCells, insCells] at this)
    subst hb
    exact ⟨none, 0, rfl, rfl⟩
  ·
    try replace h0f := of_decide_eq_false h0f
    refine AW.skip ?_
    refine AW.rseq ?_
    refine AWL.buildSliceRow rfl rfl (B rfl) rfl el_49 (B rfl) rfl evs0 (Nat.le_of_ble_eq_true rfl) rfl rfl (fun A5 => ?_)
    refine Y1 (Yv.move rfl eV) ?_
    refine AWL.appendRow (i := 0) rfl rfl (B rfl) rfl el_49 (B rfl) rfl (E rfl rfl) (SrcT.sl so_49 (B rfl) (E rfl rfl) len_code) (by unfold maxLen; omega) (by omega) (fun A7 c7 => ?_)
    refine Y1 (Yv.assign rfl eV) ?_
    refine nl ?_
    refine AW.ret (retI (.tmp rfl .nil) ?_)
    exact ⟨A7, c7, by rw [Nat.zero_add]; rfl, by rw [Nat.zero_add]; rfl⟩

set_option maxHeartbeats 400000 in
theorem clone47 (l : List Int) (h1 : l.length ≤ 1048576) :
    ACalls Try.prog 47 [.sl 1 (l.map zi)] [] (fun t_ S => t_ = .sl 1 (l.map zi)) := by
  refine ACalls.intro Try.func47 rfl Try.ntmps47 (Nat.le_of_ble_eq_true rfl) rfl fun X w0 => ?_
  refine AW.rseq ?_
  refine Y1 (Yv.assign rfl eV) ?_
  refine nl ?_
  refine AW.seq ?_
  refine AW.rseq ?_
  refine Y1 (Yv.move rfl eV) ?_
  refine AWL.yx rfl rfl (B rfl) (Yx.eqNil rfl so_47 (E rfl rfl)) ?_
  rintro t4 ⟨v4, rfl, hnil4⟩
  refine nl ?_
  refine AW.cond rfl (fun h0t => ?_) (fun h0f => ?_)
  ·
    try replace h0t := of_decide_eq_true h0t
    refine AW.rseq ?_
    refine Y1 (Yv.assign rfl eV) ?_
    refine nl ?_
    refine AW.retype (k := 2) rfl (nil_sl (k := 1) (by unfold maxLen; omega)) ?_
    refine AW.ret (retI (.tmp rfl .nil) ?_)
    have hb := List.map_eq_nil_iff.1 (hnil4 h0t)
    subst hb
    rfl
  ·
    try replace h0f := of_decide_eq_false h0f
    refine AW.skip ?_
    refine AW.rseq ?_
    refine AWL.buildSliceRow rfl rfl (B rfl) rfl el_47 (B rfl) rfl evs0 (Nat.le_of_ble_eq_true rfl) rfl rfl (fun A5 => ?_)
    refine Y1 (Yv.move rfl eV) ?_
    refine AWL.appendRow (i := 0) rfl rfl (B rfl) rfl el_47 (B rfl) rfl (E rfl rfl) (SrcT.sl so_47 (B rfl) (E rfl rfl) len_args) (by unfold maxLen; omega) (by omega) (fun A7 c7 => ?_)
    refine Y1 (Yv.assign rfl eV) ?_
    refine nl ?_
    refine AW.freeze 0 2 rfl (B rfl) rfl ?_
    refine AW.ret (retI (.tmp rfl .nil) ?_)
    rfl

set_option maxHeartbeats 400000 in
theorem clone48 (l : List UInt8) (h1 : l.length ≤ 1048576) :
    ACalls Try.prog 48 [.sl 1 (l.map u8)] [] (fun t_ S => t_ = .sl 1 (l.map u8)) := by
  refine ACalls.intro Try.func48 rfl Try.ntmps48 (Nat.le_of_ble_eq_true rfl) rfl fun X w0 => ?_
  refine AW.rseq ?_
  refine Y1 (Yv.assign rfl eV) ?_
  refine nl ?_
  refine AW.seq ?_
  refine AW.rseq ?_
  refine Y1 (Yv.move rfl eV) ?_
  refine AWL.yx rfl rfl (B rfl) (Yx.eqNil rfl so_23 (E rfl rfl)) ?_
  rintro t4 ⟨v4, rfl, hnil4⟩
  refine nl ?_
  refine AW.cond rfl (fun h0t => ?_) (fun h0f => ?_)
  ·
    try replace h0t := of_decide_eq_true h0t
    refine AW.rseq ?_
    refine Y1 (Yv.assign rfl eV) ?_
    refine nl ?_
    refine AW.retype (k := 2) rfl (nil_sl (k := 1) (by unfold maxLen; omega)) ?_
    refine AW.ret (retI (.tmp rfl .nil) ?_)
    have hb := List.map_eq_nil_iff.1 (hnil4 h0t)
    subst hb
    rfl
  ·
    try replace h0f := of_decide_eq_false h0f
    refine AW.skip ?_
    refine AW.rseq ?_
    refine AWL.buildSliceRow rfl rfl (B rfl) rfl el_23 (B rfl) rfl evs0 (Nat.le_of_ble_eq_true rfl) rfl rfl (fun A5 => ?_)
    refine Y1 (Yv.move rfl eV) ?_
    refine AWL.appendRow (i := 0) rfl rfl (B rfl) rfl el_23 (B rfl) rfl (E rfl rfl) (SrcT.sl so_23 (B rfl) (E rfl rfl) len_data) (by unfold maxLen; omega) (by omega) (fun A7 c7 => ?_)
    refine Y1 (Yv.assign rfl eV) ?_
    refine nl ?_
    refine AW.freeze 0 2 rfl (B rfl) rfl ?_
    refine AW.ret (retI (.tmp rfl .nil) ?_)
    rfl

set_option maxHeartbeats 400000 in
theorem little26  :
    ACalls Try.prog 26 [] [] (fun t S => t = littleRaw) := by
  refine ACalls.intro Try.func26 rfl Try.ntmps26 (Nat.le_of_ble_eq_true rfl) rfl fun X w0 => ?_
  refine AW.rseq ?_
  refine AWL.allocOp rfl rfl (B rfl) rfl zc_25 (fun b0 => ?_)
  refine nl ?_
  refine AW.rseq ?_
  refine Y1 (Yv.buildS rfl sh_58 (evpC (E rfl rfl) (evpC (E rfl rfl) evp0)) (fun _ => rfl)) ?_
  refine Y1 (Yv.buildS rfl sh_58 (evpC (E rfl rfl) (evpC (E rfl rfl) (evpC (E rfl rfl) evp0))) (fun _ => rfl)) ?_
  refine Y1 (Yv.buildS rfl sh_58 (evpC (E rfl rfl) (evpC (E rfl rfl) (evpC (E rfl rfl) evp0))) (fun _ => rfl)) ?_
  refine Y1 (Yv.buildS rfl sh_58 (evpC (E rfl rfl) (evpC (E rfl rfl) evp0)) (fun _ => rfl)) ?_
  refine AWL.buildSliceE rfl rfl (B rfl) rfl el_49 (B rfl) rfl (evsC (E rfl rfl) (evsC (E rfl rfl) (evsC (E rfl rfl) (evsC (E rfl rfl) evs0)))) (Nat.le_of_ble_eq_true rfl) rfl rfl ?_
  refine Y1 (Yv.buildS rfl sh_51 (evpC (E rfl rfl) (evpC (E rfl rfl) (evpC (E rfl rfl) evp0))) (fun _ => rfl)) ?_
  refine AWL.buildSliceE rfl rfl (B rfl) rfl el_22 (B rfl) rfl (evsC (E rfl rfl) evs0) (Nat.le_of_ble_eq_true rfl) rfl rfl ?_
  refine Y1 (Yv.buildS rfl sh_25 (evpC (E rfl rfl) evp0) (fun _ => rfl)) ?_
  refine AWL.storeBox (i := 0) rfl rfl rfl ag_25 rfl (E rfl rfl) (E rfl rfl) rfl rfl (Nat.le_of_ble_eq_true rfl) ?_
  refine nl ?_
  refine AW.ret (retI (.cellA (i := 0) rfl ag_25 rfl rfl rfl .nil) ?_)
  rfl

set_option maxHeartbeats 2000000 in
theorem size8 (p : Prog) (hp : ProgIn p) :
    ACalls Try.prog 8 [.agg (progCells p)] [] (fun t S => t = zi (sizeF p.funs 0)) := by
  have hpf := hp.funs
  refine ACalls.intro Try.func8 rfl Try.ntmps8 (Nat.le_of_ble_eq_true rfl) rfl fun X w0 => ?_
  refine AW.rseq ?_
  refine AWL.boxOp rfl rfl (B rfl) rfl (E rfl rfl) rfl (fun b1 => ?_)
  refine Y1 (Yv.assign rfl eV) ?_
  refine nl ?_
  refine AW.rseq ?_
  refine Y1 (Yv.assign rfl eV) ?_
  refine nl ?_
  refine AW.seq ?_
  refine AW.rseq ?_
  refine Y1 (Yv.assign rfl eV) ?_
  refine nl ?_
  refine AW.block ?_
  refine AW.loop2 (fun (j : Nat) (n : Int) => [(1, true, .v (.pointer (some ⟨b1, 0, none⟩))), (3, true, zi n), (4, true, .v (.int .i64 (j : Int)))]) (fun (j : Nat) (n : Int) => [.box b1 25 (progCells p)]) (fun (j : Nat) (n : Int) => j ≤ p.funs.length ∧ sizeF (p.funs.drop j) n = sizeF p.funs 0) (fun (j : Nat) (n : Int) => p.funs.length - j) 0 0 ?_ ?_ ?_ ?_
  · exact ⟨Nat.zero_le _, rfl⟩
  · exact (Sub.cons rfl rfl (Sub.cons rfl rfl (Sub.cons rfl rfl Sub.nil)))
  · rfl
  ·
    intro j n hinv
    obtain ⟨hj0, hsz⟩ := hinv
    refine AW.seq ?_
    refine AW.rseq ?_
    refine Y1 (Yv.move rfl eV) ?_
    refine Y1 (Yv.fieldBox rfl fo_25_0 eV) ?_
    refine Y1 (Yv.loadBox rfl ag_22 (i := 0) rfl (E rfl rfl) rfl) ?_
    refine Y1 (Yv.lenSl rfl so_22 (B rfl) (E rfl rfl) len_funs) ?_
    refine Y1 (Yv.lss rfl eV eV) ?_
    refine nl ?_
    refine AW.cond rfl (fun h0t => ?_) (fun h0f => ?_)
    ·
      try replace h0t := of_decide_eq_true h0t
      have hj : j < p.funs.length := by omega
      have hfi := hp.fn _ (getD_mem hj)
      have hfc := hfi.code
      refine AW.skip ?_
      refine AW.seq ?_
      refine AW.block ?_
      refine AW.rseq ?_
      refine Y1 (Yv.fieldBox rfl fo_25_0 eV) ?_
      refine Y1 (Yv.loadBox rfl ag_22 (i := 0) rfl (E rfl rfl) rfl) ?_
      refine Y1 (Yv.move rfl eV) ?_
      refine Y1 (Yv.indexSl rfl ss_22 (B rfl) (E rfl rfl) (E rfl rfl) (fun hg => ⟨rfl, (by first | omega | (simp only [len_code, len_funs, len_args, len_data]; omega))⟩)) ?_
      refine Y1 (Yv.loadRpA rfl ag_51 (E rfl rfl) (fun hg => fn_cells (by omega))) ?_
      refine AWL.allocOp rfl rfl (B rfl) rfl zc_51 (fun b5 => ?_)
      refine AWL.storeBox (i := 1) rfl rfl rfl ag_51 rfl (E rfl rfl) (E rfl rfl) rfl rfl (Nat.le_of_ble_eq_true rfl) ?_
      refine nl ?_
      refine AW.seq ?_
      refine AW.rseq ?_
      refine Y1 (Yv.fieldBox rfl fo_51_2 eV) ?_
      refine Y1 (Yv.loadBox rfl ag_3 (i := 1) rfl (E rfl rfl) rfl) ?_
      refine Y1 (Yv.gtr rfl eV eV) ?_
      refine Y1 (Yv.move rfl eV) ?_
      refine AWL.ygF rfl rfl rfl rfl (B rfl) (Yv.fieldBox rfl fo_51_3 (E rfl rfl)) ?_
      refine AWL.ygF rfl rfl rfl rfl (B rfl) (Yv.loadBox rfl ag_3 (i := 1) rfl (Eg rfl rfl id) rfl) ?_
      refine AWL.ygF rfl rfl rfl rfl (B rfl) (Yv.gtr rfl (Eg rfl rfl id) (E rfl rfl)) ?_
      refine Y1 (Yv.pickOr (t := .const (.bool true)) rfl (E rfl rfl) (Eg rfl rfl id)) ?_
      refine Y1 (Yv.move rfl eV) ?_
      refine AWL.ygF rfl rfl rfl rfl (B rfl) (Yv.fieldBox rfl fo_51_4 (E rfl rfl)) ?_
      refine AWL.ygF rfl rfl rfl rfl (B rfl) (Yv.loadBox rfl ag_49 (i := 1) rfl (Eg rfl rfl id) rfl) ?_
      refine AWL.ygF rfl rfl rfl rfl (B rfl) (Yv.lenSl rfl so_49 (B rfl) (Eg rfl rfl id) len_code) ?_
      refine AWL.ygF rfl rfl rfl rfl (B rfl) (Yv.gtr rfl (Eg rfl rfl id) (E rfl rfl)) ?_
      refine Y1 (Yv.pickOr (t := .const (.bool true)) rfl (E rfl rfl) (Eg rfl rfl id)) ?_
      refine Y1 (Yv.move rfl eV) ?_
      refine AWL.ygF rfl rfl rfl rfl (B rfl) (Yv.move rfl (E rfl rfl)) ?_
      refine AWL.ygF rfl rfl rfl rfl (B rfl) (Yv.gtr rfl (Eg rfl rfl id) (E rfl rfl)) ?_
      refine Y1 (Yv.pickOr (t := .const (.bool true)) rfl (E rfl rfl) (Eg rfl rfl id)) ?_
      refine nl ?_
      refine AW.cond rfl (fun h1t => ?_) (fun h1f => ?_)
      ·
        try replace h1t := of_decide_eq_true h1t
        refine AW.rseq ?_
        refine Y1 (Yv.assign rfl eV) ?_
        refine nl ?_
        refine AW.ret (retI (.tmp rfl .nil) ?_)
        rw [← hsz, size_drop hj, if_pos (show bigF (p.funs.getD j default) n = true from h1t)]
        rfl
      ·
        try replace h1f := of_decide_eq_false h1f
        refine AW.skip ?_
        refine AW.region ?_
        refine Y1 (Yv.move rfl eV) ?_
        refine Y1 (Yv.fieldBox rfl fo_51_2 eV) ?_
        refine Y1 (Yv.loadBox rfl ag_3 (i := 1) rfl (E rfl rfl) rfl) ?_
        refine Y1 (Yv.add rfl (E rfl rfl) (E rfl rfl)) ?_
        refine Y1 (Yv.fieldBox rfl fo_51_3 eV) ?_
        refine Y1 (Yv.loadBox rfl ag_3 (i := 1) rfl (E rfl rfl) rfl) ?_
        refine Y1 (Yv.add rfl (E rfl rfl) (E rfl rfl)) ?_
        refine Y1 (Yv.fieldBox rfl fo_51_4 eV) ?_
        refine Y1 (Yv.loadBox rfl ag_49 (i := 1) rfl (E rfl rfl) rfl) ?_
        refine Y1 (Yv.lenSl rfl so_49 (B rfl) (E rfl rfl) len_code) ?_
        refine Y1 (Yv.add rfl (E rfl rfl) (E rfl rfl)) ?_
        refine Y1 (Yv.assign rfl eV) ?_
        refine nl ?_
        refine AW.dropAt 1 ?_
        refine AW.region ?_
        refine Y1 (Yv.move rfl eV) ?_
        refine Y1 (Yv.addN_i64 rfl (E rfl rfl) (E rfl rfl) (fun hg => by omega)) ?_
        refine Y1 (Yv.assign rfl eV) ?_
        refine nl ?_
        refine ⟨j + 1, _, ⟨by omega, ?_⟩, by omega, (Sub.cons rfl rfl (Sub.cons rfl rfl (Sub.cons rfl (by simp) Sub.nil))), rfl⟩
        rw [← hsz, size_drop hj, if_neg (by rw [show bigF (p.funs.getD j default) n = false from h1f]; decide)]
        rfl
    ·
      try replace h0f := of_decide_eq_false h0f
      refine AW.exit ?_
      refine AW.rseq ?_
      refine Y1 (Yv.move rfl eV) ?_
      refine Y1 (Yv.assign rfl eV) ?_
      refine nl ?_
      refine AW.ret (retI (.tmp rfl .nil) ?_)
      rw [← hsz, List.drop_of_length_le (by omega)]
      rfl

set_option maxHeartbeats 8000000 in
theorem kept29 (p : Prog) (hp : ProgIn p) :
    ACalls Try.prog 29 [.agg (progCells p)] [] (fun t S => t = .agg (progCells p)) := by
  have hpf := hp.funs
  have hpd := hp.data
  refine ACalls.intro Try.func29 rfl Try.ntmps29 (Nat.le_of_ble_eq_true rfl) rfl fun X w0 => ?_
  refine AW.rseq ?_
  refine AWL.boxOp rfl rfl (B rfl) rfl (E rfl rfl) rfl (fun b1 => ?_)
  refine AWL.allocOp rfl rfl (B rfl) rfl zc_25 (fun b2 => ?_)
  refine nl ?_
  refine AW.rseq ?_
  refine Y1 (Yv.fieldBox rfl fo_25_0 eV) ?_
  refine Y1 (Yv.loadBox rfl ag_22 (i := 0) rfl (E rfl rfl) rfl) ?_
  refine C1 rfl ce_45 (E rfl rfl) (evsC (E rfl rfl) evs0) (S1 := []) (S2 := _) rfl (clone45R p.funs hpf) ?_
  rintro t7 S7 ⟨A1, c1, rfl, rfl⟩
  refine Y1 (Yv.fieldBox rfl fo_25_0 eV) ?_
  refine AWL.storeBox (i := 1) rfl rfl rfl ag_22 rfl (E rfl rfl) (E rfl rfl) rfl rfl (Nat.le_of_ble_eq_true rfl) ?_
  refine nl ?_
  refine AW.eqS (S' := [.row A1 p.funs.length c1 51 5 (p.funs.flatMap fnCells), .box b1 25 [.v (.slice A1 p.funs.length c1), .sl 1 (p.data.map u8), zi p.zero], .box b2 25 [nilT, nilT, zi 0]]) rfl ?_
  refine AW.seq ?_
  refine AW.rseq ?_
  refine Y1 (Yv.fieldBox rfl fo_25_0 eV) ?_
  refine Y1 (Yv.loadBox rfl ag_22 (i := 1) rfl (E rfl rfl) rfl) ?_
  refine Y1 (Yv.lenV rfl so_22 (E rfl rfl)) ?_
  refine Y1 (Yv.move rfl eV) ?_
  refine nl ?_
  refine AW.block ?_
  refine AW.loop (fun (k : Nat) => [(1, true, .v (.pointer (some ⟨b1, 0, none⟩))), (2, true, .v (.pointer (some ⟨b2, 0, none⟩))), (10, true, .v (.slice A1 p.funs.length c1)), (11, true, .v (.int .i64 (p.funs.length : Int))), (12, true, .v (.int .i64 (k : Int)))]) (fun (k : Nat) => [.row A1 p.funs.length c1 51 5 (p.funs.flatMap fnCells), .box b1 25 [.v (.slice A1 p.funs.length c1), .sl 1 (p.data.map u8), zi p.zero], .box b2 25 [nilT, nilT, zi 0]]) (fun (k : Nat) => k ≤ p.funs.length) (fun (k : Nat) => p.funs.length - k) 0 ?_ ?_ ?_ ?_
  · exact Nat.zero_le _
  · exact (Sub.cons rfl rfl (Sub.cons rfl rfl (Sub.cons rfl rfl (Sub.cons rfl rfl (Sub.cons rfl rfl Sub.nil)))))
  · rfl
  ·
    intro k hinv
    refine AW.rseq ?_
    refine Y1 (Yv.lss rfl eV eV) ?_
    refine nl ?_
    refine AW.seq ?_
    refine AW.cond rfl (fun h0t => ?_) (fun h0f => ?_)
    ·
      try replace h0t := of_decide_eq_true h0t
      have hk : k < p.funs.length := by omega
      have hfi := hp.fn _ (getD_mem hk)
      have hfc := hfi.code
      refine AW.skip ?_
      refine AW.seq ?_
      refine AW.block ?_
      refine AW.rseq ?_
      refine Y1 (Yv.move rfl eV) ?_
      refine Y1 (Yv.assign rfl eV) ?_
      refine nl ?_
      refine AW.mid (α := Option Addr × Nat) (fun _ => [(1, true, .v (.pointer (some ⟨b1, 0, none⟩))), (2, true, .v (.pointer (some ⟨b2, 0, none⟩))), (3, true, .v (.int .i64 (k : Int))), (10, true, .v (.slice A1 p.funs.length c1)), (11, true, .v (.int .i64 (p.funs.length : Int))), (12, true, .v (.int .i64 (k : Int)))]) (fun y => [.row y.1 (p.funs.getD k default).code.length y.2 58 11 ((p.funs.getD k default).code.flatMap insCells), .row A1 p.funs.length c1 51 5 ((p.funs.flatMap fnCells).set (k * 5 + 4) (.v (.slice y.1 (p.funs.getD k default).code.length y.2))), .box b1 25 [.v (.slice A1 p.funs.length c1), .sl 1 (p.data.map u8), zi p.zero], .box b2 25 [nilT, nilT, zi 0]]) (fun _ => True) ?_ ?_
      ·
        refine AW.regionP rfl ?_
        refine AWP.take (i := 0) rfl (by kernel_rfl) (by kernel_rfl) (by kernel_rfl) rfl rfl (B rfl) (freeField rfl fo_25_0 (E rfl rfl)) ?_
        refine AWP.take (i := 2) rfl (by kernel_rfl) (by kernel_rfl) (by kernel_rfl) rfl rfl (B rfl) (freeMove rfl (E rfl rfl)) ?_
        refine AWP.take (i := 3) rfl (by kernel_rfl) (by kernel_rfl) (by kernel_rfl) rfl rfl (B rfl) (freeField rfl fo_25_0 (E rfl rfl)) ?_
        refine AWP.take (i := 5) rfl (by kernel_rfl) (by kernel_rfl) (by kernel_rfl) rfl rfl (B rfl) (freeMove rfl (E rfl rfl)) ?_
        refine AWP.two (i := 1) (j := 4) (by kernel_rfl) rfl rfl ?_ ?_
        ·
          refine Y1 (Yv.loadBox rfl ag_22 (i := 1) rfl (E rfl rfl) rfl) ?_
          refine nl ?_
          refine AWP.one (i := 4) (by kernel_rfl) rfl ?_
          refine Y1 (Yv.loadBox rfl ag_22 (i := 1) rfl (E rfl rfl) rfl) ?_
          refine nl ?_
          refine AWP.one (i := 6) (by kernel_rfl) rfl ?_
          refine Y1 (Yv.indexRow rfl ss_22 (i := 0) rfl (E rfl rfl) (E rfl rfl) (fun hg => ⟨rfl, by omega⟩)) ?_
          refine nl ?_
          refine AWP.one (i := 7) (by kernel_rfl) rfl ?_
          refine Y1 (Yv.fieldEp rfl fo_51_4 (E rfl rfl)) ?_
          refine nl ?_
          refine AWP.one (i := 8) (by kernel_rfl) rfl ?_
          refine Y1 (Yv.loadEp rfl ag_49 (i := 0) rfl (E rfl rfl) (fun hg => fcode_at (by omega))) ?_
          refine nl ?_
          refine AWP.one (i := 9) (by kernel_rfl) rfl ?_
          refine C1 rfl ce_46 (E rfl rfl) (evsC (E rfl rfl) evs0) (S1 := []) (S2 := _) rfl (clone46R (p.funs.getD k default).code hfc) ?_
          rintro t24 S24 ⟨A2, c2, rfl, rfl⟩
          refine nl ?_
          refine AWP.one (i := 10) (by kernel_rfl) rfl ?_
          refine Y1 (Yv.indexRow rfl ss_22 (i := 1) rfl (E rfl rfl) (E rfl rfl) (fun hg => ⟨rfl, by omega⟩)) ?_
          refine nl ?_
          refine AWP.one (i := 11) (by kernel_rfl) rfl ?_
          refine Y1 (Yv.fieldEp rfl fo_51_4 (E rfl rfl)) ?_
          refine nl ?_
          refine AWP.one (i := 12) (by kernel_rfl) rfl ?_
          refine AWL.storeEp1 (i := 1) rfl rfl rfl ag_49 rfl (E rfl rfl) (E rfl rfl) rfl rfl (by rw [len_funs]; omega) ?_
          refine nl ?_
          refine AWP.done (by kernel_rfl) ?_
          exact ⟨(A2, c2), trivial, (Sub.cons rfl rfl (Sub.cons rfl rfl (Sub.cons rfl rfl (Sub.cons rfl rfl (Sub.cons rfl rfl (Sub.cons rfl rfl Sub.nil)))))), rfl⟩
        ·
          refine Y1 (Yv.loadBox rfl ag_22 (i := 1) rfl (E rfl rfl) rfl) ?_
          refine nl ?_
          refine AWP.take (i := 6) rfl (by kernel_rfl) (by kernel_rfl) (by kernel_rfl) rfl rfl (B rfl) (freeIdxRow (i := 0) rfl ss_22 rfl (E rfl rfl) (E rfl rfl) ⟨rfl, by omega⟩) ?_
          refine AWP.take (i := 7) rfl (by kernel_rfl) (by kernel_rfl) (by kernel_rfl) rfl rfl (B rfl) (freeFieldEp rfl fo_51_4 (E rfl rfl)) ?_
          refine AWP.two (i := 1) (j := 8) (by kernel_rfl) rfl rfl ?_ ?_
          ·
            refine Y1 (Yv.loadBox rfl ag_22 (i := 1) rfl (E rfl rfl) rfl) ?_
            refine nl ?_
            refine AWP.one (i := 8) (by kernel_rfl) rfl ?_
            refine Y1 (Yv.loadEp rfl ag_49 (i := 0) rfl (E rfl rfl) (fun hg => fcode_at (by omega))) ?_
            refine nl ?_
            refine AWP.one (i := 9) (by kernel_rfl) rfl ?_
            refine C1 rfl ce_46 (E rfl rfl) (evsC (E rfl rfl) evs0) (S1 := []) (S2 := _) rfl (clone46R (p.funs.getD k default).code hfc) ?_
            rintro t24 S24 ⟨A2, c2, rfl, rfl⟩
            refine nl ?_
            refine AWP.one (i := 10) (by kernel_rfl) rfl ?_
            refine Y1 (Yv.indexRow rfl ss_22 (i := 1) rfl (E rfl rfl) (E rfl rfl) (fun hg => ⟨rfl, by omega⟩)) ?_
            refine nl ?_
            refine AWP.one (i := 11) (by kernel_rfl) rfl ?_
            refine Y1 (Yv.fieldEp rfl fo_51_4 (E rfl rfl)) ?_
            refine nl ?_
            refine AWP.one (i := 12) (by kernel_rfl) rfl ?_
            refine AWL.storeEp1 (i := 1) rfl rfl rfl ag_49 rfl (E rfl rfl) (E rfl rfl) rfl rfl (by rw [len_funs]; omega) ?_
            refine nl ?_
            refine AWP.done (by kernel_rfl) ?_
            exact ⟨(A2, c2), trivial, (Sub.cons rfl rfl (Sub.cons rfl rfl (Sub.cons rfl rfl (Sub.cons rfl rfl (Sub.cons rfl rfl (Sub.cons rfl rfl Sub.nil)))))), rfl⟩
          ·
            refine Y1 (Yv.loadEp rfl ag_49 (i := 0) rfl (E rfl rfl) (fun hg => fcode_at (by omega))) ?_
            refine nl ?_
            refine AWP.two (i := 1) (j := 9) (by kernel_rfl) rfl rfl ?_ ?_
            ·
              refine Y1 (Yv.loadBox rfl ag_22 (i := 1) rfl (E rfl rfl) rfl) ?_
              refine nl ?_
              refine AWP.one (i := 9) (by kernel_rfl) rfl ?_
              refine C1 rfl ce_46 (E rfl rfl) (evsC (E rfl rfl) evs0) (S1 := []) (S2 := _) rfl (clone46R (p.funs.getD k default).code hfc) ?_
              rintro t24 S24 ⟨A2, c2, rfl, rfl⟩
              refine nl ?_
              refine AWP.one (i := 10) (by kernel_rfl) rfl ?_
              refine Y1 (Yv.indexRow rfl ss_22 (i := 1) rfl (E rfl rfl) (E rfl rfl) (fun hg => ⟨rfl, by omega⟩)) ?_
              refine nl ?_
              refine AWP.one (i := 11) (by kernel_rfl) rfl ?_
              refine Y1 (Yv.fieldEp rfl fo_51_4 (E rfl rfl)) ?_
              refine nl ?_
              refine AWP.one (i := 12) (by kernel_rfl) rfl ?_
              refine AWL.storeEp1 (i := 1) rfl rfl rfl ag_49 rfl (E rfl rfl) (E rfl rfl) rfl rfl (by rw [len_funs]; omega) ?_
              refine nl ?_
              refine AWP.done (by kernel_rfl) ?_
              exact ⟨(A2, c2), trivial, (Sub.cons rfl rfl (Sub.cons rfl rfl (Sub.cons rfl rfl (Sub.cons rfl rfl (Sub.cons rfl rfl (Sub.cons rfl rfl Sub.nil)))))), rfl⟩
            ·
              refine C1 rfl ce_46 (E rfl rfl) (evsC (E rfl rfl) evs0) (S1 := []) (S2 := _) rfl (clone46R (p.funs.getD k default).code hfc) ?_
              rintro t24 S24 ⟨A2, c2, rfl, rfl⟩
              refine nl ?_
              refine AWP.one (i := 1) (by kernel_rfl) rfl ?_
              refine Y1 (Yv.loadBox rfl ag_22 (i := 2) rfl (E rfl rfl) rfl) ?_
              refine nl ?_
              refine AWP.one (i := 10) (by kernel_rfl) rfl ?_
              refine Y1 (Yv.indexRow rfl ss_22 (i := 1) rfl (E rfl rfl) (E rfl rfl) (fun hg => ⟨rfl, by omega⟩)) ?_
              refine nl ?_
              refine AWP.one (i := 11) (by kernel_rfl) rfl ?_
              refine Y1 (Yv.fieldEp rfl fo_51_4 (E rfl rfl)) ?_
              refine nl ?_
              refine AWP.one (i := 12) (by kernel_rfl) rfl ?_
              refine AWL.storeEp1 (i := 1) rfl rfl rfl ag_49 rfl (E rfl rfl) (E rfl rfl) rfl rfl (by rw [len_funs]; omega) ?_
              refine nl ?_
              refine AWP.done (by kernel_rfl) ?_
              exact ⟨(A2, c2), trivial, (Sub.cons rfl rfl (Sub.cons rfl rfl (Sub.cons rfl rfl (Sub.cons rfl rfl (Sub.cons rfl rfl (Sub.cons rfl rfl Sub.nil)))))), rfl⟩
      ·
        rintro ⟨A2, c2⟩ hmid
        refine AW.rseq ?_
        refine Y1 (Yv.fieldBox rfl fo_25_0 eV) ?_
        refine Y1 (Yv.loadBox rfl ag_22 (i := 2) rfl (E rfl rfl) rfl) ?_
        refine Y1 (Yv.move rfl eV) ?_
        refine Y1 (Yv.indexRow rfl ss_22 (i := 1) rfl (E rfl rfl) (E rfl rfl) (fun hg => ⟨rfl, by omega⟩)) ?_
        refine Y1 (Yv.fieldEp rfl fo_51_4 (E rfl rfl)) ?_
        refine Y1 (Yv.loadEp rfl ag_49 (i := 1) rfl (E rfl rfl) (fun hg => set_get _ (by rw [len_funs]; omega))) ?_
        refine Y1 (Yv.lenV rfl so_49 (E rfl rfl)) ?_
        refine Y1 (Yv.move rfl eV) ?_
        refine nl ?_
        refine AW.block ?_
        refine AW.loop (fun (i : Nat) => [(1, true, .v (.pointer (some ⟨b1, 0, none⟩))), (2, true, .v (.pointer (some ⟨b2, 0, none⟩))), (3, true, .v (.int .i64 (k : Int))), (10, true, .v (.slice A1 p.funs.length c1)), (11, true, .v (.int .i64 (p.funs.length : Int))), (12, true, .v (.int .i64 (k : Int))), (33, true, .v (.int .i64 ((p.funs.getD k default).code.length : Int))), (34, true, .v (.int .i64 (i : Int)))]) (fun (i : Nat) => [.row A2 (p.funs.getD k default).code.length c2 58 11 ((p.funs.getD k default).code.flatMap insCells), .row A1 p.funs.length c1 51 5 ((p.funs.flatMap fnCells).set (k * 5 + 4) (.v (.slice A2 (p.funs.getD k default).code.length c2))), .box b1 25 [.v (.slice A1 p.funs.length c1), .sl 1 (p.data.map u8), zi p.zero], .box b2 25 [nilT, nilT, zi 0]]) (fun (i : Nat) => i ≤ (p.funs.getD k default).code.length) (fun (i : Nat) => (p.funs.getD k default).code.length - i) 0 ?_ ?_ ?_ ?_
        · exact Nat.zero_le _
        · exact (Sub.cons rfl rfl (Sub.cons rfl rfl (Sub.cons rfl rfl (Sub.cons rfl rfl (Sub.cons rfl rfl (Sub.cons rfl rfl (Sub.cons rfl rfl (Sub.cons rfl rfl Sub.nil))))))))
        · rfl
        ·
          intro i hi0
          refine AW.rseq ?_
          refine Y1 (Yv.lss rfl eV eV) ?_
          refine nl ?_
          refine AW.seq ?_
          refine AW.cond rfl (fun h1t => ?_) (fun h1f => ?_)
          ·
            try replace h1t := of_decide_eq_true h1t
            have hi : i < (p.funs.getD k default).code.length := by omega
            have hia := (hfi.ins _ (getD_mem hi)).args
            refine AW.skip ?_
            refine AW.seq ?_
            refine AW.block ?_
            refine AW.rseq ?_
            refine Y1 (Yv.move rfl eV) ?_
            refine Y1 (Yv.assign rfl eV) ?_
            refine nl ?_
            refine AW.regionP rfl ?_
            refine AWP.take (i := 0) rfl (by kernel_rfl) (by kernel_rfl) (by kernel_rfl) rfl rfl (B rfl) (freeField rfl fo_25_0 (E rfl rfl)) ?_
            refine AWP.take (i := 2) rfl (by kernel_rfl) (by kernel_rfl) (by kernel_rfl) rfl rfl (B rfl) (freeMove rfl (E rfl rfl)) ?_
            refine AWP.take (i := 6) rfl (by kernel_rfl) (by kernel_rfl) (by kernel_rfl) rfl rfl (B rfl) (freeMove rfl (E rfl rfl)) ?_
            refine AWP.take (i := 7) rfl (by kernel_rfl) (by kernel_rfl) (by kernel_rfl) rfl rfl (B rfl) (freeField rfl fo_25_0 (E rfl rfl)) ?_
            refine AWP.take (i := 9) rfl (by kernel_rfl) (by kernel_rfl) (by kernel_rfl) rfl rfl (B rfl) (freeMove rfl (E rfl rfl)) ?_
            refine AWP.take (i := 13) rfl (by kernel_rfl) (by kernel_rfl) (by kernel_rfl) rfl rfl (B rfl) (freeMove rfl (E rfl rfl)) ?_
            refine AWP.two (i := 1) (j := 8) (by kernel_rfl) rfl rfl ?_ ?_
            ·
              refine Y1 (Yv.loadBox rfl ag_22 (i := 2) rfl (E rfl rfl) rfl) ?_
              refine nl ?_
              refine AWP.take (i := 3) rfl (by kernel_rfl) (by kernel_rfl) (by kernel_rfl) rfl rfl (B rfl) (freeIdxRow (i := 1) rfl ss_22 rfl (E rfl rfl) (E rfl rfl) ⟨rfl, by omega⟩) ?_
              refine AWP.take (i := 4) rfl (by kernel_rfl) (by kernel_rfl) (by kernel_rfl) rfl rfl (B rfl) (freeFieldEp rfl fo_51_4 (E rfl rfl)) ?_
              refine AWP.two (i := 5) (j := 8) (by kernel_rfl) rfl rfl ?_ ?_
              ·
                refine Y1 (Yv.loadEp rfl ag_49 (i := 1) rfl (E rfl rfl) (fun hg => set_get _ (by rw [len_funs]; omega))) ?_
                refine nl ?_
                refine AWP.one (i := 8) (by kernel_rfl) rfl ?_
                refine Y1 (Yv.loadBox rfl ag_22 (i := 2) rfl (E rfl rfl) rfl) ?_
                refine nl ?_
                refine AWP.one (i := 10) (by kernel_rfl) rfl ?_
                refine Y1 (Yv.indexRow rfl ss_22 (i := 1) rfl (E rfl rfl) (E rfl rfl) (fun hg => ⟨rfl, by omega⟩)) ?_
                refine nl ?_
                refine AWP.one (i := 11) (by kernel_rfl) rfl ?_
                refine Y1 (Yv.fieldEp rfl fo_51_4 (E rfl rfl)) ?_
                refine nl ?_
                refine AWP.one (i := 12) (by kernel_rfl) rfl ?_
                refine Y1 (Yv.loadEp rfl ag_49 (i := 1) rfl (E rfl rfl) (fun hg => set_get _ (by rw [len_funs]; omega))) ?_
                refine nl ?_
                refine AWP.one (i := 14) (by kernel_rfl) rfl ?_
                refine Y1 (Yv.indexRow rfl ss_49 (i := 0) rfl (E rfl rfl) (E rfl rfl) (fun hg => ⟨rfl, by omega⟩)) ?_
                refine nl ?_
                refine AWP.one (i := 15) (by kernel_rfl) rfl ?_
                refine Y1 (Yv.fieldEp rfl fo_58_10 (E rfl rfl)) ?_
                refine nl ?_
                refine AWP.one (i := 16) (by kernel_rfl) rfl ?_
                refine Y1 (Yv.loadEp rfl ag_47 (i := 0) rfl (E rfl rfl) (fun hg => iargs_at (by omega))) ?_
                refine nl ?_
                refine AWP.one (i := 17) (by kernel_rfl) rfl ?_
                refine AWL.callT rfl rfl (B rfl) rfl ce_47 (E rfl rfl) (evsC (E rfl rfl) evs0) (clone47 ((p.funs.getD k default).code.getD i default).args hia) ?_
                rintro t54 S54 rfl
                refine nl ?_
                refine AWP.one (i := 18) (by kernel_rfl) rfl ?_
                refine Y1 (Yv.indexRow rfl ss_49 (i := 0) rfl (E rfl rfl) (E rfl rfl) (fun hg => ⟨rfl, by omega⟩)) ?_
                refine nl ?_
                refine AWP.one (i := 19) (by kernel_rfl) rfl ?_
                refine Y1 (Yv.fieldEp rfl fo_58_10 (E rfl rfl)) ?_
                refine nl ?_
                refine AWP.one (i := 20) (by kernel_rfl) rfl ?_
                refine AWL.storeEp1 (i := 0) rfl rfl rfl ag_47 rfl (E rfl rfl) (E rfl rfl) rfl rfl (by rw [len_code]; omega) ?_
                refine nl ?_
                refine AWP.done (by kernel_rfl) ?_
                rw [set_args (by omega)]
                refine AW.region ?_
                refine Y1 (Yv.addN_i64 rfl (E rfl rfl) (E rfl rfl) (fun hg => by omega)) ?_
                refine Y1 (Yv.move rfl eV) ?_
                refine nl ?_
                refine ⟨i + 1, by omega, by omega, (Sub.cons rfl rfl (Sub.cons rfl rfl (Sub.cons rfl rfl (Sub.cons rfl rfl (Sub.cons rfl rfl (Sub.cons rfl rfl (Sub.cons rfl rfl (Sub.cons rfl (by simp) Sub.nil)))))))), rfl⟩
              ·
                refine Y1 (Yv.loadBox rfl ag_22 (i := 2) rfl (E rfl rfl) rfl) ?_
                refine nl ?_
                refine AWP.take (i := 10) rfl (by kernel_rfl) (by kernel_rfl) (by kernel_rfl) rfl rfl (B rfl) (freeIdxRow (i := 1) rfl ss_22 rfl (E rfl rfl) (E rfl rfl) ⟨rfl, by omega⟩) ?_
                refine AWP.take (i := 11) rfl (by kernel_rfl) (by kernel_rfl) (by kernel_rfl) rfl rfl (B rfl) (freeFieldEp rfl fo_51_4 (E rfl rfl)) ?_
                refine AWP.two (i := 5) (j := 12) (by kernel_rfl) rfl rfl ?_ ?_
                ·
                  refine Y1 (Yv.loadEp rfl ag_49 (i := 1) rfl (E rfl rfl) (fun hg => set_get _ (by rw [len_funs]; omega))) ?_
                  refine nl ?_
                  refine AWP.one (i := 12) (by kernel_rfl) rfl ?_
                  refine Y1 (Yv.loadEp rfl ag_49 (i := 1) rfl (E rfl rfl) (fun hg => set_get _ (by rw [len_funs]; omega))) ?_
                  refine nl ?_
                  refine AWP.one (i := 14) (by kernel_rfl) rfl ?_
                  refine Y1 (Yv.indexRow rfl ss_49 (i := 0) rfl (E rfl rfl) (E rfl rfl) (fun hg => ⟨rfl, by omega⟩)) ?_
                  refine nl ?_
                  refine AWP.one (i := 15) (by kernel_rfl) rfl ?_
                  refine Y1 (Yv.fieldEp rfl fo_58_10 (E rfl rfl)) ?_
                  refine nl ?_
                  refine AWP.one (i := 16) (by kernel_rfl) rfl ?_
                  refine Y1 (Yv.loadEp rfl ag_47 (i := 0) rfl (E rfl rfl) (fun hg => iargs_at (by omega))) ?_
                  refine nl ?_
                  refine AWP.one (i := 17) (by kernel_rfl) rfl ?_
                  refine AWL.callT rfl rfl (B rfl) rfl ce_47 (E rfl rfl) (evsC (E rfl rfl) evs0) (clone47 ((p.funs.getD k default).code.getD i default).args hia) ?_
                  rintro t54 S54 rfl
                  refine nl ?_
                  refine AWP.one (i := 18) (by kernel_rfl) rfl ?_
                  refine Y1 (Yv.indexRow rfl ss_49 (i := 0) rfl (E rfl rfl) (E rfl rfl) (fun hg => ⟨rfl, by omega⟩)) ?_
                  refine nl ?_
                  refine AWP.one (i := 19) (by kernel_rfl) rfl ?_
                  refine Y1 (Yv.fieldEp rfl fo_58_10 (E rfl rfl)) ?_
                  refine nl ?_
                  refine AWP.one (i := 20) (by kernel_rfl) rfl ?_
                  refine AWL.storeEp1 (i := 0) rfl rfl rfl ag_47 rfl (E rfl rfl) (E rfl rfl) rfl rfl (by rw [len_code]; omega) ?_
                  refine nl ?_
                  refine AWP.done (by kernel_rfl) ?_
                  rw [set_args (by omega)]
                  refine AW.region ?_
                  refine Y1 (Yv.addN_i64 rfl (E rfl rfl) (E rfl rfl) (fun hg => by omega)) ?_
                  refine Y1 (Yv.move rfl eV) ?_
                  refine nl ?_
                  refine ⟨i + 1, by omega, by omega, (Sub.cons rfl rfl (Sub.cons rfl rfl (Sub.cons rfl rfl (Sub.cons rfl rfl (Sub.cons rfl rfl (Sub.cons rfl rfl (Sub.cons rfl rfl (Sub.cons rfl (by simp) Sub.nil)))))))), rfl⟩
                ·
                  refine Y1 (Yv.loadEp rfl ag_49 (i := 1) rfl (E rfl rfl) (fun hg => set_get _ (by rw [len_funs]; omega))) ?_
                  refine nl ?_
                  refine AWP.take (i := 14) rfl (by kernel_rfl) (by kernel_rfl) (by kernel_rfl) rfl rfl (B rfl) (freeIdxRow (i := 0) rfl ss_49 rfl (E rfl rfl) (E rfl rfl) ⟨rfl, by omega⟩) ?_
                  refine AWP.take (i := 15) rfl (by kernel_rfl) (by kernel_rfl) (by kernel_rfl) rfl rfl (B rfl) (freeFieldEp rfl fo_58_10 (E rfl rfl)) ?_
                  refine AWP.two (i := 5) (j := 16) (by kernel_rfl) rfl rfl ?_ ?_
                  ·
                    refine Y1 (Yv.loadEp rfl ag_49 (i := 1) rfl (E rfl rfl) (fun hg => set_get _ (by rw [len_funs]; omega))) ?_
                    refine nl ?_
                    refine AWP.one (i := 16) (by kernel_rfl) rfl ?_
                    refine Y1 (Yv.loadEp rfl ag_47 (i := 0) rfl (E rfl rfl) (fun hg => iargs_at (by omega))) ?_
                    refine nl ?_
                    refine AWP.one (i := 17) (by kernel_rfl) rfl ?_
                    refine AWL.callT rfl rfl (B rfl) rfl ce_47 (E rfl rfl) (evsC (E rfl rfl) evs0) (clone47 ((p.funs.getD k default).code.getD i default).args hia) ?_
                    rintro t54 S54 rfl
                    refine nl ?_
                    refine AWP.one (i := 18) (by kernel_rfl) rfl ?_
                    refine Y1 (Yv.indexRow rfl ss_49 (i := 0) rfl (E rfl rfl) (E rfl rfl) (fun hg => ⟨rfl, by omega⟩)) ?_
                    refine nl ?_
                    refine AWP.one (i := 19) (by kernel_rfl) rfl ?_
                    refine Y1 (Yv.fieldEp rfl fo_58_10 (E rfl rfl)) ?_
                    refine nl ?_
                    refine AWP.one (i := 20) (by kernel_rfl) rfl ?_
                    refine AWL.storeEp1 (i := 0) rfl rfl rfl ag_47 rfl (E rfl rfl) (E rfl rfl) rfl rfl (by rw [len_code]; omega) ?_
                    refine nl ?_
                    refine AWP.done (by kernel_rfl) ?_
                    rw [set_args (by omega)]
                    refine AW.region ?_
                    refine Y1 (Yv.addN_i64 rfl (E rfl rfl) (E rfl rfl) (fun hg => by omega)) ?_
                    refine Y1 (Yv.move rfl eV) ?_
                    refine nl ?_
                    refine ⟨i + 1, by omega, by omega, (Sub.cons rfl rfl (Sub.cons rfl rfl (Sub.cons rfl rfl (Sub.cons rfl rfl (Sub.cons rfl rfl (Sub.cons rfl rfl (Sub.cons rfl rfl (Sub.cons rfl (by simp) Sub.nil)))))))), rfl⟩
                  ·
                    refine Y1 (Yv.loadEp rfl ag_47 (i := 0) rfl (E rfl rfl) (fun hg => iargs_at (by omega))) ?_
                    refine nl ?_
                    refine AWP.two (i := 5) (j := 17) (by kernel_rfl) rfl rfl ?_ ?_
                    ·
                      refine Y1 (Yv.loadEp rfl ag_49 (i := 1) rfl (E rfl rfl) (fun hg => set_get _ (by rw [len_funs]; omega))) ?_
                      refine nl ?_
                      refine AWP.one (i := 17) (by kernel_rfl) rfl ?_
                      refine AWL.callT rfl rfl (B rfl) rfl ce_47 (E rfl rfl) (evsC (E rfl rfl) evs0) (clone47 ((p.funs.getD k default).code.getD i default).args hia) ?_
                      rintro t54 S54 rfl
                      refine nl ?_
                      refine AWP.one (i := 18) (by kernel_rfl) rfl ?_
                      refine Y1 (Yv.indexRow rfl ss_49 (i := 0) rfl (E rfl rfl) (E rfl rfl) (fun hg => ⟨rfl, by omega⟩)) ?_
                      refine nl ?_
                      refine AWP.one (i := 19) (by kernel_rfl) rfl ?_
                      refine Y1 (Yv.fieldEp rfl fo_58_10 (E rfl rfl)) ?_
                      refine nl ?_
                      refine AWP.one (i := 20) (by kernel_rfl) rfl ?_
                      refine AWL.storeEp1 (i := 0) rfl rfl rfl ag_47 rfl (E rfl rfl) (E rfl rfl) rfl rfl (by rw [len_code]; omega) ?_
                      refine nl ?_
                      refine AWP.done (by kernel_rfl) ?_
                      rw [set_args (by omega)]
                      refine AW.region ?_
                      refine Y1 (Yv.addN_i64 rfl (E rfl rfl) (E rfl rfl) (fun hg => by omega)) ?_
                      refine Y1 (Yv.move rfl eV) ?_
                      refine nl ?_
                      refine ⟨i + 1, by omega, by omega, (Sub.cons rfl rfl (Sub.cons rfl rfl (Sub.cons rfl rfl (Sub.cons rfl rfl (Sub.cons rfl rfl (Sub.cons rfl rfl (Sub.cons rfl rfl (Sub.cons rfl (by simp) Sub.nil)))))))), rfl⟩
                    ·
                      refine AWL.callT rfl rfl (B rfl) rfl ce_47 (E rfl rfl) (evsC (E rfl rfl) evs0) (clone47 ((p.funs.getD k default).code.getD i default).args hia) ?_
                      rintro t54 S54 rfl
                      refine nl ?_
                      refine AWP.one (i := 5) (by kernel_rfl) rfl ?_
                      refine Y1 (Yv.loadEp rfl ag_49 (i := 1) rfl (E rfl rfl) (fun hg => set_get _ (by rw [len_funs]; omega))) ?_
                      refine nl ?_
                      refine AWP.one (i := 18) (by kernel_rfl) rfl ?_
                      refine Y1 (Yv.indexRow rfl ss_49 (i := 0) rfl (E rfl rfl) (E rfl rfl) (fun hg => ⟨rfl, by omega⟩)) ?_
                      refine nl ?_
                      refine AWP.one (i := 19) (by kernel_rfl) rfl ?_
                      refine Y1 (Yv.fieldEp rfl fo_58_10 (E rfl rfl)) ?_
                      refine nl ?_
                      refine AWP.one (i := 20) (by kernel_rfl) rfl ?_
                      refine AWL.storeEp1 (i := 0) rfl rfl rfl ag_47 rfl (E rfl rfl) (E rfl rfl) rfl rfl (by rw [len_code]; omega) ?_
                      refine nl ?_
                      refine AWP.done (by kernel_rfl) ?_
                      rw [set_args (by omega)]
                      refine AW.region ?_
                      refine Y1 (Yv.addN_i64 rfl (E rfl rfl) (E rfl rfl) (fun hg => by omega)) ?_
                      refine Y1 (Yv.move rfl eV) ?_
                      refine nl ?_
                      refine ⟨i + 1, by omega, by omega, (Sub.cons rfl rfl (Sub.cons rfl rfl (Sub.cons rfl rfl (Sub.cons rfl rfl (Sub.cons rfl rfl (Sub.cons rfl rfl (Sub.cons rfl rfl (Sub.cons rfl (by simp) Sub.nil)))))))), rfl⟩
            ·
              refine Y1 (Yv.loadBox rfl ag_22 (i := 2) rfl (E rfl rfl) rfl) ?_
              refine nl ?_
              refine AWP.take (i := 10) rfl (by kernel_rfl) (by kernel_rfl) (by kernel_rfl) rfl rfl (B rfl) (freeIdxRow (i := 1) rfl ss_22 rfl (E rfl rfl) (E rfl rfl) ⟨rfl, by omega⟩) ?_
              refine AWP.take (i := 11) rfl (by kernel_rfl) (by kernel_rfl) (by kernel_rfl) rfl rfl (B rfl) (freeFieldEp rfl fo_51_4 (E rfl rfl)) ?_
              refine AWP.two (i := 1) (j := 12) (by kernel_rfl) rfl rfl ?_ ?_
              ·
                refine Y1 (Yv.loadBox rfl ag_22 (i := 2) rfl (E rfl rfl) rfl) ?_
                refine nl ?_
                refine AWP.take (i := 3) rfl (by kernel_rfl) (by kernel_rfl) (by kernel_rfl) rfl rfl (B rfl) (freeIdxRow (i := 1) rfl ss_22 rfl (E rfl rfl) (E rfl rfl) ⟨rfl, by omega⟩) ?_
                refine AWP.take (i := 4) rfl (by kernel_rfl) (by kernel_rfl) (by kernel_rfl) rfl rfl (B rfl) (freeFieldEp rfl fo_51_4 (E rfl rfl)) ?_
                refine AWP.two (i := 5) (j := 12) (by kernel_rfl) rfl rfl ?_ ?_
                ·
                  refine Y1 (Yv.loadEp rfl ag_49 (i := 1) rfl (E rfl rfl) (fun hg => set_get _ (by rw [len_funs]; omega))) ?_
                  refine nl ?_
                  refine AWP.one (i := 12) (by kernel_rfl) rfl ?_
                  refine Y1 (Yv.loadEp rfl ag_49 (i := 1) rfl (E rfl rfl) (fun hg => set_get _ (by rw [len_funs]; omega))) ?_
                  refine nl ?_
                  refine AWP.one (i := 14) (by kernel_rfl) rfl ?_
                  refine Y1 (Yv.indexRow rfl ss_49 (i := 0) rfl (E rfl rfl) (E rfl rfl) (fun hg => ⟨rfl, by omega⟩)) ?_
                  refine nl ?_
                  refine AWP.one (i := 15) (by kernel_rfl) rfl ?_
                  refine Y1 (Yv.fieldEp rfl fo_58_10 (E rfl rfl)) ?_
                  refine nl ?_
                  refine AWP.one (i := 16) (by kernel_rfl) rfl ?_
                  refine Y1 (Yv.loadEp rfl ag_47 (i := 0) rfl (E rfl rfl) (fun hg => iargs_at (by omega))) ?_
                  refine nl ?_
                  refine AWP.one (i := 17) (by kernel_rfl) rfl ?_
                  refine AWL.callT rfl rfl (B rfl) rfl ce_47 (E rfl rfl) (evsC (E rfl rfl) evs0) (clone47 ((p.funs.getD k default).code.getD i default).args hia) ?_
                  rintro t54 S54 rfl
                  refine nl ?_
                  refine AWP.one (i := 18) (by kernel_rfl) rfl ?_
                  refine Y1 (Yv.indexRow rfl ss_49 (i := 0) rfl (E rfl rfl) (E rfl rfl) (fun hg => ⟨rfl, by omega⟩)) ?_
                  refine nl ?_
                  refine AWP.one (i := 19) (by kernel_rfl) rfl ?_
                  refine Y1 (Yv.fieldEp rfl fo_58_10 (E rfl rfl)) ?_
                  refine nl ?_
                  refine AWP.one (i := 20) (by kernel_rfl) rfl ?_
                  refine AWL.storeEp1 (i := 0) rfl rfl rfl ag_47 rfl (E rfl rfl) (E rfl rfl) rfl rfl (by rw [len_code]; omega) ?_
                  refine nl ?_
                  refine AWP.done (by kernel_rfl) ?_
                  rw [set_args (by omega)]
                  refine AW.region ?_
                  refine Y1 (Yv.addN_i64 rfl (E rfl rfl) (E rfl rfl) (fun hg => by omega)) ?_
                  refine Y1 (Yv.move rfl eV) ?_
                  refine nl ?_
                  refine ⟨i + 1, by omega, by omega, (Sub.cons rfl rfl (Sub.cons rfl rfl (Sub.cons rfl rfl (Sub.cons rfl rfl (Sub.cons rfl rfl (Sub.cons rfl rfl (Sub.cons rfl rfl (Sub.cons rfl (by simp) Sub.nil)))))))), rfl⟩
                ·
                  refine Y1 (Yv.loadEp rfl ag_49 (i := 1) rfl (E rfl rfl) (fun hg => set_get _ (by rw [len_funs]; omega))) ?_
                  refine nl ?_
                  refine AWP.take (i := 14) rfl (by kernel_rfl) (by kernel_rfl) (by kernel_rfl) rfl rfl (B rfl) (freeIdxRow (i := 0) rfl ss_49 rfl (E rfl rfl) (E rfl rfl) ⟨rfl, by omega⟩) ?_
                  refine AWP.take (i := 15) rfl (by kernel_rfl) (by kernel_rfl) (by kernel_rfl) rfl rfl (B rfl) (freeFieldEp rfl fo_58_10 (E rfl rfl)) ?_
                  refine AWP.two (i := 5) (j := 16) (by kernel_rfl) rfl rfl ?_ ?_
                  ·
                    refine Y1 (Yv.loadEp rfl ag_49 (i := 1) rfl (E rfl rfl) (fun hg => set_get _ (by rw [len_funs]; omega))) ?_
                    refine nl ?_
                    refine AWP.one (i := 16) (by kernel_rfl) rfl ?_
                    refine Y1 (Yv.loadEp rfl ag_47 (i := 0) rfl (E rfl rfl) (fun hg => iargs_at (by omega))) ?_
                    refine nl ?_
                    refine AWP.one (i := 17) (by kernel_rfl) rfl ?_
                    refine AWL.callT rfl rfl (B rfl) rfl ce_47 (E rfl rfl) (evsC (E rfl rfl) evs0) (clone47 ((p.funs.getD k default).code.getD i default).args hia) ?_
                    rintro t54 S54 rfl
                    refine nl ?_
                    refine AWP.one (i := 18) (by kernel_rfl) rfl ?_
                    refine Y1 (Yv.indexRow rfl ss_49 (i := 0) rfl (E rfl rfl) (E rfl rfl) (fun hg => ⟨rfl, by omega⟩)) ?_
                    refine nl ?_
                    refine AWP.one (i := 19) (by kernel_rfl) rfl ?_
                    refine Y1 (Yv.fieldEp rfl fo_58_10 (E rfl rfl)) ?_
                    refine nl ?_
                    refine AWP.one (i := 20) (by kernel_rfl) rfl ?_
                    refine AWL.storeEp1 (i := 0) rfl rfl rfl ag_47 rfl (E rfl rfl) (E rfl rfl) rfl rfl (by rw [len_code]; omega) ?_
                    refine nl ?_
                    refine AWP.done (by kernel_rfl) ?_
                    rw [set_args (by omega)]
                    refine AW.region ?_
                    refine Y1 (Yv.addN_i64 rfl (E rfl rfl) (E rfl rfl) (fun hg => by omega)) ?_
                    refine Y1 (Yv.move rfl eV) ?_
                    refine nl ?_
                    refine ⟨i + 1, by omega, by omega, (Sub.cons rfl rfl (Sub.cons rfl rfl (Sub.cons rfl rfl (Sub.cons rfl rfl (Sub.cons rfl rfl (Sub.cons rfl rfl (Sub.cons rfl rfl (Sub.cons rfl (by simp) Sub.nil)))))))), rfl⟩
                  ·
                    refine Y1 (Yv.loadEp rfl ag_47 (i := 0) rfl (E rfl rfl) (fun hg => iargs_at (by omega))) ?_
                    refine nl ?_
                    refine AWP.two (i := 5) (j := 17) (by kernel_rfl) rfl rfl ?_ ?_
                    ·
                      refine Y1 (Yv.loadEp rfl ag_49 (i := 1) rfl (E rfl rfl) (fun hg => set_get _ (by rw [len_funs]; omega))) ?_
                      refine nl ?_
                      refine AWP.one (i := 17) (by kernel_rfl) rfl ?_
                      refine AWL.callT rfl rfl (B rfl) rfl ce_47 (E rfl rfl) (evsC (E rfl rfl) evs0) (clone47 ((p.funs.getD k default).code.getD i default).args hia) ?_
                      rintro t54 S54 rfl
                      refine nl ?_
                      refine AWP.one (i := 18) (by kernel_rfl) rfl ?_
                      refine Y1 (Yv.indexRow rfl ss_49 (i := 0) rfl (E rfl rfl) (E rfl rfl) (fun hg => ⟨rfl, by omega⟩)) ?_
                      refine nl ?_
                      refine AWP.one (i := 19) (by kernel_rfl) rfl ?_
                      refine Y1 (Yv.fieldEp rfl fo_58_10 (E rfl rfl)) ?_
                      refine nl ?_
                      refine AWP.one (i := 20) (by kernel_rfl) rfl ?_
                      refine AWL.storeEp1 (i := 0) rfl rfl rfl ag_47 rfl (E rfl rfl) (E rfl rfl) rfl rfl (by rw [len_code]; omega) ?_
                      refine nl ?_
                      refine AWP.done (by kernel_rfl) ?_
                      rw [set_args (by omega)]
                      refine AW.region ?_
                      refine Y1 (Yv.addN_i64 rfl (E rfl rfl) (E rfl rfl) (fun hg => by omega)) ?_
                      refine Y1 (Yv.move rfl eV) ?_
                      refine nl ?_
                      refine ⟨i + 1, by omega, by omega, (Sub.cons rfl rfl (Sub.cons rfl rfl (Sub.cons rfl rfl (Sub.cons rfl rfl (Sub.cons rfl rfl (Sub.cons rfl rfl (Sub.cons rfl rfl (Sub.cons rfl (by simp) Sub.nil)))))))), rfl⟩
                    ·
                      refine AWL.callT rfl rfl (B rfl) rfl ce_47 (E rfl rfl) (evsC (E rfl rfl) evs0) (clone47 ((p.funs.getD k default).code.getD i default).args hia) ?_
                      rintro t54 S54 rfl
                      refine nl ?_
                      refine AWP.one (i := 5) (by kernel_rfl) rfl ?_
                      refine Y1 (Yv.loadEp rfl ag_49 (i := 1) rfl (E rfl rfl) (fun hg => set_get _ (by rw [len_funs]; omega))) ?_
                      refine nl ?_
                      refine AWP.one (i := 18) (by kernel_rfl) rfl ?_
                      refine Y1 (Yv.indexRow rfl ss_49 (i := 0) rfl (E rfl rfl) (E rfl rfl) (fun hg => ⟨rfl, by omega⟩)) ?_
                      refine nl ?_
                      refine AWP.one (i := 19) (by kernel_rfl) rfl ?_
                      refine Y1 (Yv.fieldEp rfl fo_58_10 (E rfl rfl)) ?_
                      refine nl ?_
                      refine AWP.one (i := 20) (by kernel_rfl) rfl ?_
                      refine AWL.storeEp1 (i := 0) rfl rfl rfl ag_47 rfl (E rfl rfl) (E rfl rfl) rfl rfl (by rw [len_code]; omega) ?_
                      refine nl ?_
                      refine AWP.done (by kernel_rfl) ?_
                      rw [set_args (by omega)]
                      refine AW.region ?_
                      refine Y1 (Yv.addN_i64 rfl (E rfl rfl) (E rfl rfl) (fun hg => by omega)) ?_
                      refine Y1 (Yv.move rfl eV) ?_
                      refine nl ?_
                      refine ⟨i + 1, by omega, by omega, (Sub.cons rfl rfl (Sub.cons rfl rfl (Sub.cons rfl rfl (Sub.cons rfl rfl (Sub.cons rfl rfl (Sub.cons rfl rfl (Sub.cons rfl rfl (Sub.cons rfl (by simp) Sub.nil)))))))), rfl⟩
              ·
                refine Y1 (Yv.loadEp rfl ag_49 (i := 1) rfl (E rfl rfl) (fun hg => set_get _ (by rw [len_funs]; omega))) ?_
                refine nl ?_
                refine AWP.take (i := 14) rfl (by kernel_rfl) (by kernel_rfl) (by kernel_rfl) rfl rfl (B rfl) (freeIdxRow (i := 0) rfl ss_49 rfl (E rfl rfl) (E rfl rfl) ⟨rfl, by omega⟩) ?_
                refine AWP.take (i := 15) rfl (by kernel_rfl) (by kernel_rfl) (by kernel_rfl) rfl rfl (B rfl) (freeFieldEp rfl fo_58_10 (E rfl rfl)) ?_
                refine AWP.two (i := 1) (j := 16) (by kernel_rfl) rfl rfl ?_ ?_
                ·
                  refine Y1 (Yv.loadBox rfl ag_22 (i := 2) rfl (E rfl rfl) rfl) ?_
                  refine nl ?_
                  refine AWP.take (i := 3) rfl (by kernel_rfl) (by kernel_rfl) (by kernel_rfl) rfl rfl (B rfl) (freeIdxRow (i := 1) rfl ss_22 rfl (E rfl rfl) (E rfl rfl) ⟨rfl, by omega⟩) ?_
                  refine AWP.take (i := 4) rfl (by kernel_rfl) (by kernel_rfl) (by kernel_rfl) rfl rfl (B rfl) (freeFieldEp rfl fo_51_4 (E rfl rfl)) ?_
                  refine AWP.two (i := 5) (j := 16) (by kernel_rfl) rfl rfl ?_ ?_
                  ·
                    refine Y1 (Yv.loadEp rfl ag_49 (i := 1) rfl (E rfl rfl) (fun hg => set_get _ (by rw [len_funs]; omega))) ?_
                    refine nl ?_
                    refine AWP.one (i := 16) (by kernel_rfl) rfl ?_
                    refine Y1 (Yv.loadEp rfl ag_47 (i := 0) rfl (E rfl rfl) (fun hg => iargs_at (by omega))) ?_
                    refine nl ?_
                    refine AWP.one (i := 17) (by kernel_rfl) rfl ?_
                    refine AWL.callT rfl rfl (B rfl) rfl ce_47 (E rfl rfl) (evsC (E rfl rfl) evs0) (clone47 ((p.funs.getD k default).code.getD i default).args hia) ?_
                    rintro t54 S54 rfl
                    refine nl ?_
                    refine AWP.one (i := 18) (by kernel_rfl) rfl ?_
                    refine Y1 (Yv.indexRow rfl ss_49 (i := 0) rfl (E rfl rfl) (E rfl rfl) (fun hg => ⟨rfl, by omega⟩)) ?_
                    refine nl ?_
                    refine AWP.one (i := 19) (by kernel_rfl) rfl ?_
                    refine Y1 (Yv.fieldEp rfl fo_58_10 (E rfl rfl)) ?_
                    refine nl ?_
                    refine AWP.one (i := 20) (by kernel_rfl) rfl ?_
                    refine AWL.storeEp1 (i := 0) rfl rfl rfl ag_47 rfl (E rfl rfl) (E rfl rfl) rfl rfl (by rw [len_code]; omega) ?_
                    refine nl ?_
                    refine AWP.done (by kernel_rfl) ?_
                    rw [set_args (by omega)]
                    refine AW.region ?_
                    refine Y1 (Yv.addN_i64 rfl (E rfl rfl) (E rfl rfl) (fun hg => by omega)) ?_
                    refine Y1 (Yv.move rfl eV) ?_
                    refine nl ?_
                    refine ⟨i + 1, by omega, by omega, (Sub.cons rfl rfl (Sub.cons rfl rfl (Sub.cons rfl rfl (Sub.cons rfl rfl (Sub.cons rfl rfl (Sub.cons rfl rfl (Sub.cons rfl rfl (Sub.cons rfl (by simp) Sub.nil)))))))), rfl⟩
                  ·
                    refine Y1 (Yv.loadEp rfl ag_47 (i := 0) rfl (E rfl rfl) (fun hg => iargs_at (by omega))) ?_
                    refine nl ?_
                    refine AWP.two (i := 5) (j := 17) (by kernel_rfl) rfl rfl ?_ ?_
                    ·
                      refine Y1 (Yv.loadEp rfl ag_49 (i := 1) rfl (E rfl rfl) (fun hg => set_get _ (by rw [len_funs]; omega))) ?_
                      refine nl ?_
                      refine AWP.one (i := 17) (by kernel_rfl) rfl ?_
                      refine AWL.callT rfl rfl (B rfl) rfl ce_47 (E rfl rfl) (evsC (E rfl rfl) evs0) (clone47 ((p.funs.getD k default).code.getD i default).args hia) ?_
                      rintro t54 S54 rfl
                      refine nl ?_
                      refine AWP.one (i := 18) (by kernel_rfl) rfl ?_
                      refine Y1 (Yv.indexRow rfl ss_49 (i := 0) rfl (E rfl rfl) (E rfl rfl) (fun hg => ⟨rfl, by omega⟩)) ?_
                      refine nl ?_
                      refine AWP.one (i := 19) (by kernel_rfl) rfl ?_
                      refine Y1 (Yv.fieldEp rfl fo_58_10 (E rfl rfl)) ?_
                      refine nl ?_
                      refine AWP.one (i := 20) (by kernel_rfl) rfl ?_
                      refine AWL.storeEp1 (i := 0) rfl rfl rfl ag_47 rfl (E rfl rfl) (E rfl rfl) rfl rfl (by rw [len_code]; omega) ?_
                      refine nl ?_
                      refine AWP.done (by kernel_rfl) ?_
                      rw [set_args (by omega)]
                      refine AW.region ?_
                      refine Y1 (Yv.addN_i64 rfl (E rfl rfl) (E rfl rfl) (fun hg => by omega)) ?_
                      refine Y1 (Yv.move rfl eV) ?_
                      refine nl ?_
                      refine ⟨i + 1, by omega, by omega, (Sub.cons rfl rfl (Sub.cons rfl rfl (Sub.cons rfl rfl (Sub.cons rfl rfl (Sub.cons rfl rfl (Sub.cons rfl rfl (Sub.cons rfl rfl (Sub.cons rfl (by simp) Sub.nil)))))))), rfl⟩
                    ·
                      refine AWL.callT rfl rfl (B rfl) rfl ce_47 (E rfl rfl) (evsC (E rfl rfl) evs0) (clone47 ((p.funs.getD k default).code.getD i default).args hia) ?_
                      rintro t54 S54 rfl
                      refine nl ?_
                      refine AWP.one (i := 5) (by kernel_rfl) rfl ?_
                      refine Y1 (Yv.loadEp rfl ag_49 (i := 1) rfl (E rfl rfl) (fun hg => set_get _ (by rw [len_funs]; omega))) ?_
                      refine nl ?_
                      refine AWP.one (i := 18) (by kernel_rfl) rfl ?_
                      refine Y1 (Yv.indexRow rfl ss_49 (i := 0) rfl (E rfl rfl) (E rfl rfl) (fun hg => ⟨rfl, by omega⟩)) ?_
                      refine nl ?_
                      refine AWP.one (i := 19) (by kernel_rfl) rfl ?_
                      refine Y1 (Yv.fieldEp rfl fo_58_10 (E rfl rfl)) ?_
                      refine nl ?_
                      refine AWP.one (i := 20) (by kernel_rfl) rfl ?_
                      refine AWL.storeEp1 (i := 0) rfl rfl rfl ag_47 rfl (E rfl rfl) (E rfl rfl) rfl rfl (by rw [len_code]; omega) ?_
                      refine nl ?_
                      refine AWP.done (by kernel_rfl) ?_
                      rw [set_args (by omega)]
                      refine AW.region ?_
                      refine Y1 (Yv.addN_i64 rfl (E rfl rfl) (E rfl rfl) (fun hg => by omega)) ?_
                      refine Y1 (Yv.move rfl eV) ?_
                      refine nl ?_
                      refine ⟨i + 1, by omega, by omega, (Sub.cons rfl rfl (Sub.cons rfl rfl (Sub.cons rfl rfl (Sub.cons rfl rfl (Sub.cons rfl rfl (Sub.cons rfl rfl (Sub.cons rfl rfl (Sub.cons rfl (by simp) Sub.nil)))))))), rfl⟩
                ·
                  refine Y1 (Yv.loadEp rfl ag_47 (i := 0) rfl (E rfl rfl) (fun hg => iargs_at (by omega))) ?_
                  refine nl ?_
                  refine AWP.two (i := 1) (j := 17) (by kernel_rfl) rfl rfl ?_ ?_
                  ·
                    refine Y1 (Yv.loadBox rfl ag_22 (i := 2) rfl (E rfl rfl) rfl) ?_
                    refine nl ?_
                    refine AWP.take (i := 3) rfl (by kernel_rfl) (by kernel_rfl) (by kernel_rfl) rfl rfl (B rfl) (freeIdxRow (i := 1) rfl ss_22 rfl (E rfl rfl) (E rfl rfl) ⟨rfl, by omega⟩) ?_
                    refine AWP.take (i := 4) rfl (by kernel_rfl) (by kernel_rfl) (by kernel_rfl) rfl rfl (B rfl) (freeFieldEp rfl fo_51_4 (E rfl rfl)) ?_
                    refine AWP.two (i := 5) (j := 17) (by kernel_rfl) rfl rfl ?_ ?_
                    ·
                      refine Y1 (Yv.loadEp rfl ag_49 (i := 1) rfl (E rfl rfl) (fun hg => set_get _ (by rw [len_funs]; omega))) ?_
                      refine nl ?_
                      refine AWP.one (i := 17) (by kernel_rfl) rfl ?_
                      refine AWL.callT rfl rfl (B rfl) rfl ce_47 (E rfl rfl) (evsC (E rfl rfl) evs0) (clone47 ((p.funs.getD k default).code.getD i default).args hia) ?_
                      rintro t54 S54 rfl
                      refine nl ?_
                      refine AWP.one (i := 18) (by kernel_rfl) rfl ?_
                      refine Y1 (Yv.indexRow rfl ss_49 (i := 0) rfl (E rfl rfl) (E rfl rfl) (fun hg => ⟨rfl, by omega⟩)) ?_
                      refine nl ?_
                      refine AWP.one (i := 19) (by kernel_rfl) rfl ?_
                      refine Y1 (Yv.fieldEp rfl fo_58_10 (E rfl rfl)) ?_
                      refine nl ?_
                      refine AWP.one (i := 20) (by kernel_rfl) rfl ?_
                      refine AWL.storeEp1 (i := 0) rfl rfl rfl ag_47 rfl (E rfl rfl) (E rfl rfl) rfl rfl (by rw [len_code]; omega) ?_
                      refine nl ?_
                      refine AWP.done (by kernel_rfl) ?_
                      rw [set_args (by omega)]
                      refine AW.region ?_
                      refine Y1 (Yv.addN_i64 rfl (E rfl rfl) (E rfl rfl) (fun hg => by omega)) ?_
                      refine Y1 (Yv.move rfl eV) ?_
                      refine nl ?_
                      refine ⟨i + 1, by omega, by omega, (Sub.cons rfl rfl (Sub.cons rfl rfl (Sub.cons rfl rfl (Sub.cons rfl rfl (Sub.cons rfl rfl (Sub.cons rfl rfl (Sub.cons rfl rfl (Sub.cons rfl (by simp) Sub.nil)))))))), rfl⟩
                    ·
                      refine AWL.callT rfl rfl (B rfl) rfl ce_47 (E rfl rfl) (evsC (E rfl rfl) evs0) (clone47 ((p.funs.getD k default).code.getD i default).args hia) ?_
                      rintro t54 S54 rfl
                      refine nl ?_
                      refine AWP.one (i := 5) (by kernel_rfl) rfl ?_
                      refine Y1 (Yv.loadEp rfl ag_49 (i := 1) rfl (E rfl rfl) (fun hg => set_get _ (by rw [len_funs]; omega))) ?_
                      refine nl ?_
                      refine AWP.one (i := 18) (by kernel_rfl) rfl ?_
                      refine Y1 (Yv.indexRow rfl ss_49 (i := 0) rfl (E rfl rfl) (E rfl rfl) (fun hg => ⟨rfl, by omega⟩)) ?_
                      refine nl ?_
                      refine AWP.one (i := 19) (by kernel_rfl) rfl ?_
                      refine Y1 (Yv.fieldEp rfl fo_58_10 (E rfl rfl)) ?_
                      refine nl ?_
                      refine AWP.one (i := 20) (by kernel_rfl) rfl ?_
                      refine AWL.storeEp1 (i := 0) rfl rfl rfl ag_47 rfl (E rfl rfl) (E rfl rfl) rfl rfl (by rw [len_code]; omega) ?_
                      refine nl ?_
                      refine AWP.done (by kernel_rfl) ?_
                      rw [set_args (by omega)]
                      refine AW.region ?_
                      refine Y1 (Yv.addN_i64 rfl (E rfl rfl) (E rfl rfl) (fun hg => by omega)) ?_
                      refine Y1 (Yv.move rfl eV) ?_
                      refine nl ?_
                      refine ⟨i + 1, by omega, by omega, (Sub.cons rfl rfl (Sub.cons rfl rfl (Sub.cons rfl rfl (Sub.cons rfl rfl (Sub.cons rfl rfl (Sub.cons rfl rfl (Sub.cons rfl rfl (Sub.cons rfl (by simp) Sub.nil)))))))), rfl⟩
                  ·
                    refine AWL.callT rfl rfl (B rfl) rfl ce_47 (E rfl rfl) (evsC (E rfl rfl) evs0) (clone47 ((p.funs.getD k default).code.getD i default).args hia) ?_
                    rintro t54 S54 rfl
                    refine nl ?_
                    refine AWP.one (i := 1) (by kernel_rfl) rfl ?_
                    refine Y1 (Yv.loadBox rfl ag_22 (i := 2) rfl (E rfl rfl) rfl) ?_
                    refine nl ?_
                    refine AWP.one (i := 3) (by kernel_rfl) rfl ?_
                    refine Y1 (Yv.indexRow rfl ss_22 (i := 1) rfl (E rfl rfl) (E rfl rfl) (fun hg => ⟨rfl, by omega⟩)) ?_
                    refine nl ?_
                    refine AWP.one (i := 4) (by kernel_rfl) rfl ?_
                    refine Y1 (Yv.fieldEp rfl fo_51_4 (E rfl rfl)) ?_
                    refine nl ?_
                    refine AWP.one (i := 5) (by kernel_rfl) rfl ?_
                    refine Y1 (Yv.loadEp rfl ag_49 (i := 1) rfl (E rfl rfl) (fun hg => set_get _ (by rw [len_funs]; omega))) ?_
                    refine nl ?_
                    refine AWP.one (i := 18) (by kernel_rfl) rfl ?_
                    refine Y1 (Yv.indexRow rfl ss_49 (i := 0) rfl (E rfl rfl) (E rfl rfl) (fun hg => ⟨rfl, by omega⟩)) ?_
                    refine nl ?_
                    refine AWP.one (i := 19) (by kernel_rfl) rfl ?_
                    refine Y1 (Yv.fieldEp rfl fo_58_10 (E rfl rfl)) ?_
                    refine nl ?_
                    refine AWP.one (i := 20) (by kernel_rfl) rfl ?_
                    refine AWL.storeEp1 (i := 0) rfl rfl rfl ag_47 rfl (E rfl rfl) (E rfl rfl) rfl rfl (by rw [len_code]; omega) ?_
                    refine nl ?_
                    refine AWP.done (by kernel_rfl) ?_
                    rw [set_args (by omega)]
                    refine AW.region ?_
                    refine Y1 (Yv.addN_i64 rfl (E rfl rfl) (E rfl rfl) (fun hg => by omega)) ?_
                    refine Y1 (Yv.move rfl eV) ?_
                    refine nl ?_
                    refine ⟨i + 1, by omega, by omega, (Sub.cons rfl rfl (Sub.cons rfl rfl (Sub.cons rfl rfl (Sub.cons rfl rfl (Sub.cons rfl rfl (Sub.cons rfl rfl (Sub.cons rfl rfl (Sub.cons rfl (by simp) Sub.nil)))))))), rfl⟩
          ·
            try replace h1f := of_decide_eq_false h1f
            refine AW.exit ?_
            refine AW.freezeRow 0 0 (k * 5 + 4) rfl (by decide) rfl (set_get _ (by rw [len_funs]; omega)) ?_
            refine AW.eqS (S' := [.row A1 p.funs.length c1 51 5 (p.funs.flatMap fnCells), .box b1 25 [.v (.slice A1 p.funs.length c1), .sl 1 (p.data.map u8), zi p.zero], .box b2 25 [nilT, nilT, zi 0]]) (by
              show [Ent.row _ _ _ _ _ (List.set _ _ _), _, _] = _
              rw [set_same hk]) ?_
            refine AW.region ?_
            refine Y1 (Yv.addN_i64 rfl (E rfl rfl) (E rfl rfl) (fun hg => by omega)) ?_
            refine Y1 (Yv.move rfl eV) ?_
            refine nl ?_
            refine ⟨k + 1, by omega, by omega, (Sub.cons rfl rfl (Sub.cons rfl rfl (Sub.cons rfl rfl (Sub.cons rfl rfl (Sub.cons rfl (by simp) Sub.nil))))), rfl⟩
    ·
      try replace h0f := of_decide_eq_false h0f
      refine AW.exit ?_
      refine AW.freezeCell 0 0 0 rfl (by decide) rfl rfl ?_
      refine AW.rseq ?_
      refine Y1 (Yv.fieldBox rfl fo_25_1 eV) ?_
      refine Y1 (Yv.loadBox rfl ag_23 (i := 0) rfl (E rfl rfl) rfl) ?_
      refine AWL.callT rfl rfl (B rfl) rfl ce_48 (E rfl rfl) (evsC (E rfl rfl) evs0) (clone48 p.data hpd) ?_
      rintro t61 S61 rfl
      refine Y1 (Yv.fieldBox rfl fo_25_1 eV) ?_
      refine AWL.storeBox (i := 0) rfl rfl rfl ag_23 rfl (E rfl rfl) (E rfl rfl) rfl rfl (Nat.le_of_ble_eq_true rfl) ?_
      refine nl ?_
      refine AW.rseq ?_
      refine Y1 (Yv.loadBoxA rfl ag_25 (i := 0) rfl (E rfl rfl) rfl rfl) ?_
      refine AWL.storeBox (i := 1) rfl rfl rfl ag_25 rfl (E rfl rfl) (E rfl rfl) rfl rfl (Nat.le_of_ble_eq_true rfl) ?_
      refine nl ?_
      refine AW.ret (retI (.cellA (i := 1) rfl ag_25 rfl rfl rfl .nil) ?_)
      rfl

end Go.Proofs.Ytlfklgganokgdaa

namespace Go.Proofs.Ytlfklgganokgdaa
open Go Go.RowKit
set_option linter.unusedVariables false
set_option linter.unnecessarySimpa false
set_option linter.unusedSimpArgs false

set_option maxHeartbeats 8000000 in
theorem open31_ (s : Nat) (x : PS) (fi : Nat) (args : List Wd64) (d : Int) (C : Option Addr) (n c : Nat) (cs : List T) (R K : Nat) (hf : fi < x.prog.funs.length) (hpf : x.prog.funs.length ≤ 1048576) (hR : (x.prog.funs.getD fi default).regs = (R : Int)) (hK : (x.prog.funs.getD fi default).slots = (K : Int)) (hR1 : R ≤ 65536) (hK1 : K ≤ 1048576) (ha : args.length ≤ R) (hn : n ≤ 1048576) :
    ACalls Try.prog 31 [.v (.pointer (some ⟨s, 0, none⟩)), .v (.int .i64 (fi : Int)), .sl 1 (args.map zw), zi d] [.box s 80 (psC x (.v (.slice C n c))), .row C n c 87 7 cs] (fun t S => t = .tup [] ∧ ∃ g c' a, S = [.box s 80 (psC x (.v (.slice (some ⟨g, 0, none⟩) (n + 1) c'))), .row (some ⟨g, 0, none⟩) (n + 1) c' 87 7 (cs ++ frC ⟨fi, 0, R, K, rJ args R args.length, List.replicate K 0#64, sJ R args.length, List.replicate K false, d⟩ a)] ++ frR ⟨fi, 0, R, K, rJ args R args.length, List.replicate K 0#64, sJ R args.length, List.replicate K false, d⟩ a) := by
  have hpR : Pin (zi (x.prog.funs.getD fi default).regs) (.int .i64 (R : Int)) := by rw [hR]; exact pinV
  have hpK : Pin (zi (x.prog.funs.getD fi default).slots) (.int .i64 (K : Int)) := by rw [hK]; exact pinV
  refine ACalls.intro Try.func31 rfl Try.ntmps31 (Nat.le_of_ble_eq_true rfl) rfl fun X w0 => ?_
  refine AW.rseq ?_
  refine Y1 (Yv.move rfl eV) ?_
  refine Y1 (Yv.nilChk rfl eV) ?_
  refine Y1 (Yv.fieldBox rfl fo_80_0 eV) ?_
  refine Y1 (Yv.fieldBox rfl fo_25_0 eV) ?_
  refine Y1 (Yv.loadBox rfl ag_22 (i := 0) rfl (E rfl rfl) rfl) ?_
  refine Y1 (Yv.move rfl eV) ?_
  refine Y1 (Yv.indexSl rfl ss_22 (B rfl) (E rfl rfl) (E rfl rfl) (fun hg => ⟨rfl, (by first | omega | (simp only [len_code, len_funs, len_args, len_data, len_zw]; omega))⟩)) ?_
  refine Y1 (Yv.loadRpA rfl ag_51 (E rfl rfl) (fun hg => fn_cells (by omega))) ?_
  refine AWL.allocOp rfl rfl (B rfl) rfl zc_51 (fun b8 => ?_)
  refine AWL.storeBox (i := 2) rfl rfl rfl ag_51 rfl (E rfl rfl) (E rfl rfl) rfl rfl (Nat.le_of_ble_eq_true rfl) ?_
  refine nl ?_
  refine AW.rseqH (HeldCs [(b8, 2, Value.int .i64 (R : Int)), (b8, 3, Value.int .i64 (K : Int))]) rfl (tells_cs (tcB 2 rfl rfl hpR (tcB 2 rfl rfl hpK tc0))) ?_
  refine AWH.tkN (i := 0) rfl (by kernel_rfl) (by kernel_rfl) (by kernel_rfl) rfl rfl (B rfl) (freeMove rfl (E rfl rfl)) ?_
  refine AWH.tkN (i := 1) rfl (by kernel_rfl) (by kernel_rfl) (by kernel_rfl) rfl rfl (B rfl) (freeField rfl fo_51_2 (E rfl rfl)) ?_
  refine AWH.take (i := 2) rfl (by kernel_rfl) (by kernel_rfl) (by kernel_rfl) rfl rfl (B rfl) (heldB 0 rfl ag_3 (E rfl rfl) rfl (fun _ _ => .v _)) ?_
  refine AWH.tkN (i := 4) rfl (by kernel_rfl) (by kernel_rfl) (by kernel_rfl) rfl rfl (B rfl) (freeField rfl fo_51_3 (E rfl rfl)) ?_
  refine AWH.take (i := 5) rfl (by kernel_rfl) (by kernel_rfl) (by kernel_rfl) rfl rfl (B rfl) (heldB 1 rfl ag_3 (E rfl rfl) rfl (fun _ _ => .v _)) ?_
  refine AWH.tkN (i := 7) rfl (by kernel_rfl) (by kernel_rfl) (by kernel_rfl) rfl rfl (B rfl) (freeField rfl fo_51_2 (E rfl rfl)) ?_
  refine AWH.take (i := 8) rfl (by kernel_rfl) (by kernel_rfl) (by kernel_rfl) rfl rfl (B rfl) (heldB 0 rfl ag_3 (E rfl rfl) rfl (fun _ _ => .v _)) ?_
  refine AWH.tkN (i := 10) rfl (by kernel_rfl) (by kernel_rfl) (by kernel_rfl) rfl rfl (B rfl) (freeField rfl fo_51_3 (E rfl rfl)) ?_
  refine AWH.take (i := 11) rfl (by kernel_rfl) (by kernel_rfl) (by kernel_rfl) rfl rfl (B rfl) (heldB 1 rfl ag_3 (E rfl rfl) rfl (fun _ _ => .v _)) ?_
  refine AWH.tkN (i := 13) rfl (by kernel_rfl) (by kernel_rfl) (by kernel_rfl) rfl rfl (B rfl) (freeMove rfl (E rfl rfl)) ?_
  refine AWH.node (ι := Option Addr × Option Addr × Option Addr × Option Addr × Nat) 0 #[true, true, true, true, true, true, true, true, true, true, true, true, true, true, true, true, true] (fun ⟨A23, A26, A29, A32, b9⟩ => [(9, true, .v (.pointer (some ⟨b9, 0, none⟩))), (0, true, .v (.pointer (some ⟨s, 0, none⟩))), (1, true, .v (.int .i64 (fi : Int))), (2, true, .sl 1 (args.map zw)), (3, true, zi d), (8, true, .v (.pointer (some ⟨b8, 0, none⟩)))]) (fun ⟨A23, A26, A29, A32, b9⟩ => (.row A23 R R 39 1 ((rJ args R 0).map zw) :: .row A26 K K 39 1 ((List.replicate K 0#64).map zw) :: .row A29 R R 4 1 ((sJ R 0).map bv) :: .row A32 K K 4 1 ((List.replicate K false).map bv) :: .box b9 87 (frC ⟨fi, 0, R, K, rJ args R 0, List.replicate K 0#64, sJ R 0, List.replicate K false, d⟩ ⟨A23, A26, A29, A32⟩) :: .box s 80 (psC x (.v (.slice C n c))) :: .row C n c 87 7 cs :: .box b8 51 (fnCells (x.prog.funs.getD fi default)) :: [])) (fun ⟨A23, A26, A29, A32, b9⟩ => True) ?_ ?_
  ·
    rintro ⟨A23, A26, A29, A32, b9⟩ _
    refine AWH.done (by kernel_rfl) ?_
    refine AW.dropAt 7 ?_
    refine AW.seq ?_
    refine AW.rseq ?_
    refine Y1 (Yv.move rfl eV) ?_
    refine Y1 (Yv.lenSl rfl so_84 (B rfl) (E rfl rfl) len_zw) ?_
    refine Y1 (Yv.move rfl eV) ?_
    refine nl ?_
    refine AW.block ?_
    refine AW.loop (fun (j : Nat) => [(0, true, .v (.pointer (some ⟨s, 0, none⟩))), (9, true, .v (.pointer (some ⟨b9, 0, none⟩))), (35, true, .sl 1 (args.map zw)), (36, true, .v (.int .i64 (args.length : Int))), (37, true, .v (.int .i64 (j : Int)))]) (fun (j : Nat) => [.row A23 R R 39 1 ((rJ args R j).map zw), .row A26 K K 39 1 ((List.replicate K 0#64).map zw), .row A29 R R 4 1 ((sJ R j).map bv), .row A32 K K 4 1 ((List.replicate K false).map bv), .box b9 87 (frC ⟨fi, 0, R, K, rJ args R 0, List.replicate K 0#64, sJ R 0, List.replicate K false, d⟩ ⟨A23, A26, A29, A32⟩), .box s 80 (psC x (.v (.slice C n c))), .row C n c 87 7 cs]) (fun (j : Nat) => j ≤ args.length) (fun (j : Nat) => args.length - j) 0 ?_ ?_ ?_ ?_
    · exact Nat.zero_le _
    · exact (Sub.cons rfl rfl (Sub.cons rfl rfl (Sub.cons rfl rfl (Sub.cons rfl rfl (Sub.cons rfl rfl Sub.nil)))))
    · rfl
    ·
      intro j hinv
      refine AW.rseq ?_
      refine Y1 (Yv.lss rfl eV eV) ?_
      refine nl ?_
      refine AW.seq ?_
      refine AW.cond rfl (fun h0t => ?_) (fun h0f => ?_)
      ·
        try replace h0t := of_decide_eq_true h0t
        refine AW.skip ?_
        refine AW.seq ?_
        refine AW.block ?_
        refine AW.rseq ?_
        refine Y1 (Yv.move rfl eV) ?_
        refine Y1 (Yv.indexSl rfl ss_84 (B rfl) (E rfl rfl) (E rfl rfl) (fun hg => ⟨rfl, (by first | omega | (simp only [len_code, len_funs, len_args, len_data, len_zw]; omega))⟩)) ?_
        refine Y1 (Yv.loadRp rfl ag_39 (E rfl rfl) (fun hg => word_at (by omega))) ?_
        refine Y1 (Yv.assign rfl eV) ?_
        refine Y1 (Yv.assign rfl eV) ?_
        refine nl ?_
        refine AW.regionH (HeldCs [(b9, 2, Value.slice A23 R R), (b9, 4, Value.slice A29 R R)]) rfl (tells_cs (tcB 4 rfl rfl pinV (tcB 4 rfl rfl pinV tc0))) ?_
        refine AWH.take (i := 0) rfl (by kernel_rfl) (by kernel_rfl) (by kernel_rfl) rfl rfl (B rfl) (heldAll (freeField rfl fo_87_2 (E rfl rfl))) ?_
        refine AWH.take (i := 1) rfl (by kernel_rfl) (by kernel_rfl) (by kernel_rfl) rfl rfl (B rfl) (heldB 0 rfl ag_84 (E rfl rfl) rfl (fun _ _ => .v _)) ?_
        refine AWH.take (i := 2) rfl (by kernel_rfl) (by kernel_rfl) (by kernel_rfl) rfl rfl (B rfl) (heldAll (freeMove rfl (E rfl rfl))) ?_
        refine AWH.take (i := 3) rfl (by kernel_rfl) (by kernel_rfl) (by kernel_rfl) rfl rfl (B rfl) (heldAll (freeField rfl fo_87_4 (E rfl rfl))) ?_
        refine AWH.take (i := 4) rfl (by kernel_rfl) (by kernel_rfl) (by kernel_rfl) rfl rfl (B rfl) (heldB 1 rfl ag_85 (E rfl rfl) rfl (fun _ _ => .v _)) ?_
        refine AWH.take (i := 5) rfl (by kernel_rfl) (by kernel_rfl) (by kernel_rfl) rfl rfl (B rfl) (heldAll (freeMove rfl (E rfl rfl))) ?_
        refine AWH.one (i := 6) (by kernel_rfl) rfl ?_
        refine Y1 (Yv.move rfl eV) ?_
        refine AWL.nil (kpH (tcB 4 rfl rfl pinV (tcB 4 rfl rfl pinV tc0)) ?_)
        refine AWH.one (i := 7) (by kernel_rfl) rfl ?_
        refine Y1 (Yv.indexRow rfl ss_84 (i := 0) rfl (E rfl rfl) (E rfl rfl) (fun hg => ⟨rfl, by omega⟩)) ?_
        refine AWL.nil (kpH (tcB 4 rfl rfl pinV (tcB 4 rfl rfl pinV tc0)) ?_)
        refine AWH.one (i := 8) (by kernel_rfl) rfl ?_
        refine AWL.storeEp1 (i := 0) rfl rfl rfl ag_39 rfl (E rfl rfl) (E rfl rfl) rfl rfl (by first | (rw [List.length_map, rj_len (by omega) ha]; omega) | (rw [List.length_map, sj_len (by omega)]; omega)) ?_
        refine AWL.nil (kpH (tcB 4 rfl rfl pinV (tcB 4 rfl rfl pinV tc0)) ?_)
        refine AWH.one (i := 9) (by kernel_rfl) rfl ?_
        refine Y1 (Yv.indexRow rfl ss_85 (i := 2) rfl (E rfl rfl) (E rfl rfl) (fun hg => ⟨rfl, by omega⟩)) ?_
        refine AWL.nil (kpH (tcB 4 rfl rfl pinV (tcB 4 rfl rfl pinV tc0)) ?_)
        refine AWH.one (i := 10) (by kernel_rfl) rfl ?_
        refine AWL.storeEp1 (i := 2) rfl rfl rfl ag_4 rfl (E rfl rfl) (E rfl rfl) rfl rfl (by first | (rw [List.length_map, rj_len (by omega) ha]; omega) | (rw [List.length_map, sj_len (by omega)]; omega)) ?_
        refine AWL.nil (kpH (tcB 4 rfl rfl pinV (tcB 4 rfl rfl pinV tc0)) ?_)
        refine AWH.done (by kernel_rfl) ?_
        refine AW.region ?_
        refine Y1 (Yv.addN_i64 rfl (E rfl rfl) (E rfl rfl) (fun hg => by omega)) ?_
        refine Y1 (Yv.move rfl eV) ?_
        refine nl ?_
        refine ⟨j + 1, by omega, by omega, (Sub.cons rfl rfl (Sub.cons rfl rfl (Sub.cons rfl rfl (Sub.cons rfl rfl (Sub.cons rfl (by simp) Sub.nil))))), ?_⟩
        rw [← rj_succ (show j < args.length by omega) ha, ← sj_succ (show j < R by omega)]
        rfl
      ·
        try replace h0f := of_decide_eq_false h0f
        obtain rfl : j = args.length := by omega
        refine AW.exit ?_
        refine AW.regionP rfl ?_
        refine AWP.take (i := 0) rfl (by kernel_rfl) (by kernel_rfl) (by kernel_rfl) rfl rfl (B rfl) (freeMove rfl (E rfl rfl)) ?_
        refine AWP.take (i := 1) rfl (by kernel_rfl) (by kernel_rfl) (by kernel_rfl) rfl rfl (B rfl) (freeMove rfl (E rfl rfl)) ?_
        refine AWP.take (i := 2) rfl (by kernel_rfl) (by kernel_rfl) (by kernel_rfl) rfl rfl (B rfl) (freeNil rfl (E rfl rfl)) ?_
        refine AWP.take (i := 3) rfl (by kernel_rfl) (by kernel_rfl) (by kernel_rfl) rfl rfl (B rfl) (freeField rfl fo_80_6 (E rfl rfl)) ?_
        refine AWP.two (i := 4) (j := 5) (by kernel_rfl) rfl rfl ?_ ?_
        ·
          refine Y1 (Yv.loadBox rfl ag_78 (i := 5) rfl (E rfl rfl) rfl) ?_
          refine nl ?_
          refine AWP.one (i := 5) (by kernel_rfl) rfl ?_
          refine Y1 (Yv.loadBoxA rfl ag_87 (i := 4) rfl (E rfl rfl) rfl rfl) ?_
          refine nl ?_
          refine AWP.one (i := 6) (by kernel_rfl) rfl ?_
          refine AWL.buildSliceE rfl rfl (B rfl) rfl el_78 (B rfl) rfl (evsC (E rfl rfl) evs0) (Nat.le_of_ble_eq_true rfl) rfl rfl ?_
          refine nl ?_
          refine AWP.one (i := 7) (by kernel_rfl) rfl ?_
          refine AWL.appendRow (i := 6) rfl rfl (B rfl) rfl el_78 (B rfl) rfl (E rfl rfl) (SrcT.sl so_78 (B rfl) (E rfl rfl) rfl) (by unfold maxLen; omega) (by omega) (fun A59 c59 => ?_)
          refine nl ?_
          refine AWP.one (i := 8) (by kernel_rfl) rfl ?_
          refine Y1 (Yv.nilChk rfl eV) ?_
          refine nl ?_
          refine AWP.one (i := 9) (by kernel_rfl) rfl ?_
          refine Y1 (Yv.fieldBox rfl fo_80_6 eV) ?_
          refine nl ?_
          refine AWP.one (i := 10) (by kernel_rfl) rfl ?_
          refine AWL.storeBox (i := 5) rfl rfl rfl ag_78 rfl (E rfl rfl) (E rfl rfl) rfl rfl (Nat.le_of_ble_eq_true rfl) ?_
          refine AWL.rowSome 6 rfl (Nat.mul_pos (Nat.succ_pos _) (by decide)) (fun g59 hg59 => ?_)
          subst hg59
          refine AWL.dropAt 4 ?_
          refine AWL.perm (S' := [.box s 80 (psC x (.v (.slice (some ⟨g59, 0, none⟩) (n + 1) c59))), .row (some ⟨g59, 0, none⟩) (n + 1) c59 87 7 (cs ++ frC ⟨fi, 0, R, K, rJ args R args.length, List.replicate K 0#64, sJ R args.length, List.replicate K false, d⟩ ⟨A23, A26, A29, A32⟩), .row A23 R R 39 1 ((rJ args R args.length).map zw), .row A26 K K 39 1 ((List.replicate K 0#64).map zw), .row A29 R R 4 1 ((sJ R args.length).map bv), .row A32 K K 4 1 ((List.replicate K false).map bv)]) (List.perm_append_comm (l₁ := ([.box s 80 (psC x (.v (.slice (some ⟨g59, 0, none⟩) (n + 1) c59))), .row (some ⟨g59, 0, none⟩) (n + 1) c59 87 7 (cs ++ frC ⟨fi, 0, R, K, rJ args R args.length, List.replicate K 0#64, sJ R args.length, List.replicate K false, d⟩ ⟨A23, A26, A29, A32⟩)] : St)) (l₂ := [.row A23 R R 39 1 ((rJ args R args.length).map zw), .row A26 K K 39 1 ((List.replicate K 0#64).map zw), .row A29 R R 4 1 ((sJ R args.length).map bv), .row A32 K K 4 1 ((List.replicate K false).map bv)])) ?_
          refine nl ?_
          refine AWP.done (by kernel_rfl) ?_
          refine retN .nil ?_
          exact ⟨rfl, g59, c59, ⟨A23, A26, A29, A32⟩, rfl⟩
        ·
          refine Y1 (Yv.loadBoxA rfl ag_87 (i := 4) rfl (E rfl rfl) rfl rfl) ?_
          refine nl ?_
          refine AWP.two (i := 4) (j := 6) (by kernel_rfl) rfl rfl ?_ ?_
          ·
            refine Y1 (Yv.loadBox rfl ag_78 (i := 5) rfl (E rfl rfl) rfl) ?_
            refine nl ?_
            refine AWP.one (i := 6) (by kernel_rfl) rfl ?_
            refine AWL.buildSliceE rfl rfl (B rfl) rfl el_78 (B rfl) rfl (evsC (E rfl rfl) evs0) (Nat.le_of_ble_eq_true rfl) rfl rfl ?_
            refine nl ?_
            refine AWP.one (i := 7) (by kernel_rfl) rfl ?_
            refine AWL.appendRow (i := 6) rfl rfl (B rfl) rfl el_78 (B rfl) rfl (E rfl rfl) (SrcT.sl so_78 (B rfl) (E rfl rfl) rfl) (by unfold maxLen; omega) (by omega) (fun A59 c59 => ?_)
            refine nl ?_
            refine AWP.one (i := 8) (by kernel_rfl) rfl ?_
            refine Y1 (Yv.nilChk rfl eV) ?_
            refine nl ?_
            refine AWP.one (i := 9) (by kernel_rfl) rfl ?_
            refine Y1 (Yv.fieldBox rfl fo_80_6 eV) ?_
            refine nl ?_
            refine AWP.one (i := 10) (by kernel_rfl) rfl ?_
            refine AWL.storeBox (i := 5) rfl rfl rfl ag_78 rfl (E rfl rfl) (E rfl rfl) rfl rfl (Nat.le_of_ble_eq_true rfl) ?_
            refine AWL.rowSome 6 rfl (Nat.mul_pos (Nat.succ_pos _) (by decide)) (fun g59 hg59 => ?_)
            subst hg59
            refine AWL.dropAt 4 ?_
            refine AWL.perm (S' := [.box s 80 (psC x (.v (.slice (some ⟨g59, 0, none⟩) (n + 1) c59))), .row (some ⟨g59, 0, none⟩) (n + 1) c59 87 7 (cs ++ frC ⟨fi, 0, R, K, rJ args R args.length, List.replicate K 0#64, sJ R args.length, List.replicate K false, d⟩ ⟨A23, A26, A29, A32⟩), .row A23 R R 39 1 ((rJ args R args.length).map zw), .row A26 K K 39 1 ((List.replicate K 0#64).map zw), .row A29 R R 4 1 ((sJ R args.length).map bv), .row A32 K K 4 1 ((List.replicate K false).map bv)]) (List.perm_append_comm (l₁ := ([.box s 80 (psC x (.v (.slice (some ⟨g59, 0, none⟩) (n + 1) c59))), .row (some ⟨g59, 0, none⟩) (n + 1) c59 87 7 (cs ++ frC ⟨fi, 0, R, K, rJ args R args.length, List.replicate K 0#64, sJ R args.length, List.replicate K false, d⟩ ⟨A23, A26, A29, A32⟩)] : St)) (l₂ := [.row A23 R R 39 1 ((rJ args R args.length).map zw), .row A26 K K 39 1 ((List.replicate K 0#64).map zw), .row A29 R R 4 1 ((sJ R args.length).map bv), .row A32 K K 4 1 ((List.replicate K false).map bv)])) ?_
            refine nl ?_
            refine AWP.done (by kernel_rfl) ?_
            refine retN .nil ?_
            exact ⟨rfl, g59, c59, ⟨A23, A26, A29, A32⟩, rfl⟩
          ·
            refine AWL.buildSliceE rfl rfl (B rfl) rfl el_78 (B rfl) rfl (evsC (E rfl rfl) evs0) (Nat.le_of_ble_eq_true rfl) rfl rfl ?_
            refine nl ?_
            refine AWP.one (i := 4) (by kernel_rfl) rfl ?_
            refine Y1 (Yv.loadBox rfl ag_78 (i := 5) rfl (E rfl rfl) rfl) ?_
            refine nl ?_
            refine AWP.one (i := 7) (by kernel_rfl) rfl ?_
            refine AWL.appendRow (i := 6) rfl rfl (B rfl) rfl el_78 (B rfl) rfl (E rfl rfl) (SrcT.sl so_78 (B rfl) (E rfl rfl) rfl) (by unfold maxLen; omega) (by omega) (fun A59 c59 => ?_)
            refine nl ?_
            refine AWP.one (i := 8) (by kernel_rfl) rfl ?_
            refine Y1 (Yv.nilChk rfl eV) ?_
            refine nl ?_
            refine AWP.one (i := 9) (by kernel_rfl) rfl ?_
            refine Y1 (Yv.fieldBox rfl fo_80_6 eV) ?_
            refine nl ?_
            refine AWP.one (i := 10) (by kernel_rfl) rfl ?_
            refine AWL.storeBox (i := 5) rfl rfl rfl ag_78 rfl (E rfl rfl) (E rfl rfl) rfl rfl (Nat.le_of_ble_eq_true rfl) ?_
            refine AWL.rowSome 6 rfl (Nat.mul_pos (Nat.succ_pos _) (by decide)) (fun g59 hg59 => ?_)
            subst hg59
            refine AWL.dropAt 4 ?_
            refine AWL.perm (S' := [.box s 80 (psC x (.v (.slice (some ⟨g59, 0, none⟩) (n + 1) c59))), .row (some ⟨g59, 0, none⟩) (n + 1) c59 87 7 (cs ++ frC ⟨fi, 0, R, K, rJ args R args.length, List.replicate K 0#64, sJ R args.length, List.replicate K false, d⟩ ⟨A23, A26, A29, A32⟩), .row A23 R R 39 1 ((rJ args R args.length).map zw), .row A26 K K 39 1 ((List.replicate K 0#64).map zw), .row A29 R R 4 1 ((sJ R args.length).map bv), .row A32 K K 4 1 ((List.replicate K false).map bv)]) (List.perm_append_comm (l₁ := ([.box s 80 (psC x (.v (.slice (some ⟨g59, 0, none⟩) (n + 1) c59))), .row (some ⟨g59, 0, none⟩) (n + 1) c59 87 7 (cs ++ frC ⟨fi, 0, R, K, rJ args R args.length, List.replicate K 0#64, sJ R args.length, List.replicate K false, d⟩ ⟨A23, A26, A29, A32⟩)] : St)) (l₂ := [.row A23 R R 39 1 ((rJ args R args.length).map zw), .row A26 K K 39 1 ((List.replicate K 0#64).map zw), .row A29 R R 4 1 ((sJ R args.length).map bv), .row A32 K K 4 1 ((List.replicate K false).map bv)])) ?_
            refine nl ?_
            refine AWP.done (by kernel_rfl) ?_
            refine retN .nil ?_
            exact ⟨rfl, g59, c59, ⟨A23, A26, A29, A32⟩, rfl⟩
  intro nd11111111111111111
  refine AWH.node (ι := Option Addr × Option Addr × Option Addr × Option Addr × Nat) 1 #[true, true, true, true, true, true, true, true, true, true, true, true, true, true, true, true, false] (fun ⟨A23, A26, A29, A32, b9⟩ => [(34, true, .agg (frC ⟨fi, 0, R, K, rJ args R 0, List.replicate K 0#64, sJ R 0, List.replicate K false, d⟩ ⟨A23, A26, A29, A32⟩)), (9, true, .v (.pointer (some ⟨b9, 0, none⟩))), (0, true, .v (.pointer (some ⟨s, 0, none⟩))), (1, true, .v (.int .i64 (fi : Int))), (2, true, .sl 1 (args.map zw)), (3, true, zi d), (8, true, .v (.pointer (some ⟨b8, 0, none⟩)))]) (fun ⟨A23, A26, A29, A32, b9⟩ => (.row A23 R R 39 1 ((rJ args R 0).map zw) :: .row A26 K K 39 1 ((List.replicate K 0#64).map zw) :: .row A29 R R 4 1 ((sJ R 0).map bv) :: .row A32 K K 4 1 ((List.replicate K false).map bv) :: .box b9 87 [zi 0, zi 0, nilT, nilT, nilT, nilT, zi 0] :: .box s 80 (psC x (.v (.slice C n c))) :: .row C n c 87 7 cs :: .box b8 51 (fnCells (x.prog.funs.getD fi default)) :: [])) (fun ⟨A23, A26, A29, A32, b9⟩ => True) ?_ ?_
  ·
    rintro ⟨A23, A26, A29, A32, b9⟩ _
    refine AWH.one (i := 16) (by kernel_rfl) rfl ?_ 
    ·
      refine AWL.storeBox (i := 4) rfl rfl rfl ag_87 rfl (E rfl rfl) (E rfl rfl) rfl rfl (Nat.le_of_ble_eq_true rfl) ?_
      refine AWL.nil (kpH (tcB 7 rfl rfl hpR (tcB 7 rfl rfl hpK tc0)) ?_)
      exact AWH.to (nd11111111111111111 (A23, A26, A29, A32, b9) trivial) (by kernel_rfl) rfl (Sub.cons rfl rfl (Sub.cons rfl rfl (Sub.cons rfl rfl (Sub.cons rfl rfl (Sub.cons rfl rfl (Sub.cons rfl rfl Sub.nil))))))
  intro nd11111111111111110
  refine AWH.node (ι := Option Addr × Option Addr × Option Addr × Option Addr) 2 #[true, true, true, true, true, true, true, true, true, true, true, true, true, true, true, false, false] (fun ⟨A23, A26, A29, A32⟩ => [(34, true, .agg (frC ⟨fi, 0, R, K, rJ args R 0, List.replicate K 0#64, sJ R 0, List.replicate K false, d⟩ ⟨A23, A26, A29, A32⟩)), (0, true, .v (.pointer (some ⟨s, 0, none⟩))), (1, true, .v (.int .i64 (fi : Int))), (2, true, .sl 1 (args.map zw)), (3, true, zi d), (8, true, .v (.pointer (some ⟨b8, 0, none⟩)))]) (fun ⟨A23, A26, A29, A32⟩ => (.row A23 R R 39 1 ((rJ args R 0).map zw) :: .row A26 K K 39 1 ((List.replicate K 0#64).map zw) :: .row A29 R R 4 1 ((sJ R 0).map bv) :: .row A32 K K 4 1 ((List.replicate K false).map bv) :: .box s 80 (psC x (.v (.slice C n c))) :: .row C n c 87 7 cs :: .box b8 51 (fnCells (x.prog.funs.getD fi default)) :: [])) (fun ⟨A23, A26, A29, A32⟩ => True) ?_ ?_
  ·
    rintro ⟨A23, A26, A29, A32⟩ _
    refine AWH.one (i := 15) (by kernel_rfl) rfl ?_ 
    ·
      refine AWL.allocOp rfl rfl (B rfl) rfl zc_87 (fun b9 => ?_)
      refine AWL.perm (perm_ins (α := Ent) (F := [.row A23 R R 39 1 ((rJ args R 0).map zw), .row A26 K K 39 1 ((List.replicate K 0#64).map zw), .row A29 R R 4 1 ((sJ R 0).map bv), .row A32 K K 4 1 ((List.replicate K false).map bv)]) (G := (.box s 80 (psC x (.v (.slice C n c))) :: .row C n c 87 7 cs :: .box b8 51 (fnCells (x.prog.funs.getD fi default)) :: [])) (x := .box b9 87 [zi 0, zi 0, nilT, nilT, nilT, nilT, zi 0])) ?_
      refine AWL.nil (kpH (tcB 7 rfl rfl hpR (tcB 7 rfl rfl hpK tc0)) ?_)
      exact AWH.to (nd11111111111111110 (A23, A26, A29, A32, b9) trivial) (by kernel_rfl) rfl (Sub.cons rfl rfl (Sub.cons rfl rfl (Sub.cons rfl rfl (Sub.cons rfl rfl (Sub.cons rfl rfl (Sub.cons rfl rfl (Sub.cons rfl rfl Sub.nil)))))))
  intro nd11111111111111100
  refine AWH.node (ι := Option Addr × Option Addr × Option Addr × Option Addr × Nat) 2 #[true, true, true, true, true, true, true, true, true, true, true, true, true, true, false, true, false] (fun ⟨A23, A26, A29, A32, b9⟩ => [(20, true, zi fi), (23, true, .v (.slice A23 R R)), (26, true, .v (.slice A26 K K)), (29, true, .v (.slice A29 R R)), (32, true, .v (.slice A32 K K)), (33, true, zi d), (9, true, .v (.pointer (some ⟨b9, 0, none⟩))), (0, true, .v (.pointer (some ⟨s, 0, none⟩))), (1, true, .v (.int .i64 (fi : Int))), (2, true, .sl 1 (args.map zw)), (3, true, zi d), (8, true, .v (.pointer (some ⟨b8, 0, none⟩)))]) (fun ⟨A23, A26, A29, A32, b9⟩ => (.row A23 R R 39 1 ((rJ args R 0).map zw) :: .row A26 K K 39 1 ((List.replicate K 0#64).map zw) :: .row A29 R R 4 1 ((sJ R 0).map bv) :: .row A32 K K 4 1 ((List.replicate K false).map bv) :: .box b9 87 [zi 0, zi 0, nilT, nilT, nilT, nilT, zi 0] :: .box s 80 (psC x (.v (.slice C n c))) :: .row C n c 87 7 cs :: .box b8 51 (fnCells (x.prog.funs.getD fi default)) :: [])) (fun ⟨A23, A26, A29, A32, b9⟩ => True) ?_ ?_
  ·
    rintro ⟨A23, A26, A29, A32, b9⟩ _
    refine AWH.one (i := 14) (by kernel_rfl) rfl ?_ 
    ·
      refine Y1 (Yv.buildS rfl sh_87 (evpC (E rfl rfl) (evpC (E rfl rfl) (evpC (E rfl rfl) (evpC (E rfl rfl) (evpC (E rfl rfl) (evpC (E rfl rfl) evp0)))))) (fun _ => rfl)) ?_
      refine AWL.nil (kpH (tcB 7 rfl rfl hpR (tcB 7 rfl rfl hpK tc0)) ?_)
      exact AWH.to (nd11111111111111110 (A23, A26, A29, A32, b9) trivial) (by kernel_rfl) rfl (Sub.cons rfl rfl (Sub.cons rfl rfl (Sub.cons rfl rfl (Sub.cons rfl rfl (Sub.cons rfl rfl (Sub.cons rfl rfl (Sub.cons rfl rfl Sub.nil)))))))
  intro nd11111111111111010
  refine AWH.node (ι := Option Addr × Option Addr × Option Addr × Option Addr) 3 #[true, true, true, true, true, true, true, true, true, true, true, true, true, true, false, false, false] (fun ⟨A23, A26, A29, A32⟩ => [(20, true, zi fi), (23, true, .v (.slice A23 R R)), (26, true, .v (.slice A26 K K)), (29, true, .v (.slice A29 R R)), (32, true, .v (.slice A32 K K)), (33, true, zi d), (0, true, .v (.pointer (some ⟨s, 0, none⟩))), (1, true, .v (.int .i64 (fi : Int))), (2, true, .sl 1 (args.map zw)), (3, true, zi d), (8, true, .v (.pointer (some ⟨b8, 0, none⟩)))]) (fun ⟨A23, A26, A29, A32⟩ => (.row A23 R R 39 1 ((rJ args R 0).map zw) :: .row A26 K K 39 1 ((List.replicate K 0#64).map zw) :: .row A29 R R 4 1 ((sJ R 0).map bv) :: .row A32 K K 4 1 ((List.replicate K false).map bv) :: .box s 80 (psC x (.v (.slice C n c))) :: .row C n c 87 7 cs :: .box b8 51 (fnCells (x.prog.funs.getD fi default)) :: [])) (fun ⟨A23, A26, A29, A32⟩ => True) ?_ ?_
  ·
    rintro ⟨A23, A26, A29, A32⟩ _
    refine AWH.two (i := 14) (j := 15) (by kernel_rfl) rfl rfl ?_ ?_ 
    ·
      refine Y1 (Yv.buildS rfl sh_87 (evpC (E rfl rfl) (evpC (E rfl rfl) (evpC (E rfl rfl) (evpC (E rfl rfl) (evpC (E rfl rfl) (evpC (E rfl rfl) evp0)))))) (fun _ => rfl)) ?_
      refine AWL.nil (kpH (tcB 6 rfl rfl hpR (tcB 6 rfl rfl hpK tc0)) ?_)
      exact AWH.to (nd11111111111111100 (A23, A26, A29, A32) trivial) (by kernel_rfl) rfl (Sub.cons rfl rfl (Sub.cons rfl rfl (Sub.cons rfl rfl (Sub.cons rfl rfl (Sub.cons rfl rfl (Sub.cons rfl rfl Sub.nil))))))
    ·
      refine AWL.allocOp rfl rfl (B rfl) rfl zc_87 (fun b9 => ?_)
      refine AWL.perm (perm_ins (α := Ent) (F := [.row A23 R R 39 1 ((rJ args R 0).map zw), .row A26 K K 39 1 ((List.replicate K 0#64).map zw), .row A29 R R 4 1 ((sJ R 0).map bv), .row A32 K K 4 1 ((List.replicate K false).map bv)]) (G := (.box s 80 (psC x (.v (.slice C n c))) :: .row C n c 87 7 cs :: .box b8 51 (fnCells (x.prog.funs.getD fi default)) :: [])) (x := .box b9 87 [zi 0, zi 0, nilT, nilT, nilT, nilT, zi 0])) ?_
      refine AWL.nil (kpH (tcB 7 rfl rfl hpR (tcB 7 rfl rfl hpK tc0)) ?_)
      exact AWH.to (nd11111111111111010 (A23, A26, A29, A32, b9) trivial) (by kernel_rfl) rfl (Sub.cons rfl rfl (Sub.cons rfl rfl (Sub.cons rfl rfl (Sub.cons rfl rfl (Sub.cons rfl rfl (Sub.cons rfl rfl (Sub.cons rfl rfl (Sub.cons rfl rfl (Sub.cons rfl rfl (Sub.cons rfl rfl (Sub.cons rfl rfl (Sub.cons rfl rfl Sub.nil))))))))))))
  intro nd11111111111111000
  refine AWH.node (ι := Option Addr × Option Addr × Option Addr × Nat) 3 #[true, true, true, true, true, true, true, true, true, true, true, true, false, true, false, true, false] (fun ⟨A23, A26, A29, b9⟩ => [(20, true, zi fi), (23, true, .v (.slice A23 R R)), (26, true, .v (.slice A26 K K)), (29, true, .v (.slice A29 R R)), (31, true, .v (.int .i64 (K : Int))), (33, true, zi d), (9, true, .v (.pointer (some ⟨b9, 0, none⟩))), (0, true, .v (.pointer (some ⟨s, 0, none⟩))), (1, true, .v (.int .i64 (fi : Int))), (2, true, .sl 1 (args.map zw)), (3, true, zi d), (8, true, .v (.pointer (some ⟨b8, 0, none⟩)))]) (fun ⟨A23, A26, A29, b9⟩ => (.row A23 R R 39 1 ((rJ args R 0).map zw) :: .row A26 K K 39 1 ((List.replicate K 0#64).map zw) :: .row A29 R R 4 1 ((sJ R 0).map bv) :: .box b9 87 [zi 0, zi 0, nilT, nilT, nilT, nilT, zi 0] :: .box s 80 (psC x (.v (.slice C n c))) :: .row C n c 87 7 cs :: .box b8 51 (fnCells (x.prog.funs.getD fi default)) :: [])) (fun ⟨A23, A26, A29, b9⟩ => True) ?_ ?_
  ·
    rintro ⟨A23, A26, A29, b9⟩ _
    refine AWH.one (i := 12) (by kernel_rfl) rfl ?_ 
    ·
      refine AWL.makeRow (n := K) (c := K) rfl rfl (B rfl) rfl el_85 (E rfl rfl) (E rfl rfl) (Nat.le_refl _) (by omega) (by unfold maxLen; omega) (fun A32 => ?_)
      refine AWL.eqLast (zero_b K) ?_
      refine AWL.perm (perm_ins (α := Ent) (F := [.row A23 R R 39 1 ((rJ args R 0).map zw), .row A26 K K 39 1 ((List.replicate K 0#64).map zw), .row A29 R R 4 1 ((sJ R 0).map bv)]) (G := (.box b9 87 [zi 0, zi 0, nilT, nilT, nilT, nilT, zi 0] :: .box s 80 (psC x (.v (.slice C n c))) :: .row C n c 87 7 cs :: .box b8 51 (fnCells (x.prog.funs.getD fi default)) :: [])) (x := .row A32 K K 4 1 ((List.replicate K false).map bv))) ?_
      refine AWL.nil (kpH (tcB 7 rfl rfl hpR (tcB 7 rfl rfl hpK tc0)) ?_)
      exact AWH.to (nd11111111111111010 (A23, A26, A29, A32, b9) trivial) (by kernel_rfl) rfl (Sub.cons rfl rfl (Sub.cons rfl rfl (Sub.cons rfl rfl (Sub.cons rfl rfl (Sub.cons rfl rfl (Sub.cons rfl rfl (Sub.cons rfl rfl (Sub.cons rfl rfl (Sub.cons rfl rfl (Sub.cons rfl rfl (Sub.cons rfl rfl (Sub.cons rfl rfl Sub.nil))))))))))))
  intro nd11111111111101010
  refine AWH.node (ι := Option Addr × Option Addr × Option Addr × Nat) 3 #[true, true, true, true, true, true, true, true, true, false, true, true, true, true, false, true, false] (fun ⟨A23, A26, A32, b9⟩ => [(20, true, zi fi), (23, true, .v (.slice A23 R R)), (26, true, .v (.slice A26 K K)), (28, true, .v (.int .i64 (R : Int))), (32, true, .v (.slice A32 K K)), (33, true, zi d), (9, true, .v (.pointer (some ⟨b9, 0, none⟩))), (0, true, .v (.pointer (some ⟨s, 0, none⟩))), (1, true, .v (.int .i64 (fi : Int))), (2, true, .sl 1 (args.map zw)), (3, true, zi d), (8, true, .v (.pointer (some ⟨b8, 0, none⟩)))]) (fun ⟨A23, A26, A32, b9⟩ => (.row A23 R R 39 1 ((rJ args R 0).map zw) :: .row A26 K K 39 1 ((List.replicate K 0#64).map zw) :: .row A32 K K 4 1 ((List.replicate K false).map bv) :: .box b9 87 [zi 0, zi 0, nilT, nilT, nilT, nilT, zi 0] :: .box s 80 (psC x (.v (.slice C n c))) :: .row C n c 87 7 cs :: .box b8 51 (fnCells (x.prog.funs.getD fi default)) :: [])) (fun ⟨A23, A26, A32, b9⟩ => True) ?_ ?_
  ·
    rintro ⟨A23, A26, A32, b9⟩ _
    refine AWH.one (i := 9) (by kernel_rfl) rfl ?_ 
    ·
      refine AWL.makeRow (n := R) (c := R) rfl rfl (B rfl) rfl el_85 (E rfl rfl) (E rfl rfl) (Nat.le_refl _) (by omega) (by unfold maxLen; omega) (fun A29 => ?_)
      refine AWL.eqLast (zero_s R) ?_
      refine AWL.perm (perm_ins (α := Ent) (F := [.row A23 R R 39 1 ((rJ args R 0).map zw), .row A26 K K 39 1 ((List.replicate K 0#64).map zw)]) (G := (.row A32 K K 4 1 ((List.replicate K false).map bv) :: .box b9 87 [zi 0, zi 0, nilT, nilT, nilT, nilT, zi 0] :: .box s 80 (psC x (.v (.slice C n c))) :: .row C n c 87 7 cs :: .box b8 51 (fnCells (x.prog.funs.getD fi default)) :: [])) (x := .row A29 R R 4 1 ((sJ R 0).map bv))) ?_
      refine AWL.nil (kpH (tcB 7 rfl rfl hpR (tcB 7 rfl rfl hpK tc0)) ?_)
      exact AWH.to (nd11111111111111010 (A23, A26, A29, A32, b9) trivial) (by kernel_rfl) rfl (Sub.cons rfl rfl (Sub.cons rfl rfl (Sub.cons rfl rfl (Sub.cons rfl rfl (Sub.cons rfl rfl (Sub.cons rfl rfl (Sub.cons rfl rfl (Sub.cons rfl rfl (Sub.cons rfl rfl (Sub.cons rfl rfl (Sub.cons rfl rfl (Sub.cons rfl rfl Sub.nil))))))))))))
  intro nd11111111101111010
  refine AWH.node (ι := Option Addr × Option Addr × Option Addr × Nat) 3 #[true, true, true, true, true, true, false, true, true, true, true, true, true, true, false, true, false] (fun ⟨A23, A29, A32, b9⟩ => [(20, true, zi fi), (23, true, .v (.slice A23 R R)), (25, true, .v (.int .i64 (K : Int))), (29, true, .v (.slice A29 R R)), (32, true, .v (.slice A32 K K)), (33, true, zi d), (9, true, .v (.pointer (some ⟨b9, 0, none⟩))), (0, true, .v (.pointer (some ⟨s, 0, none⟩))), (1, true, .v (.int .i64 (fi : Int))), (2, true, .sl 1 (args.map zw)), (3, true, zi d), (8, true, .v (.pointer (some ⟨b8, 0, none⟩)))]) (fun ⟨A23, A29, A32, b9⟩ => (.row A23 R R 39 1 ((rJ args R 0).map zw) :: .row A29 R R 4 1 ((sJ R 0).map bv) :: .row A32 K K 4 1 ((List.replicate K false).map bv) :: .box b9 87 [zi 0, zi 0, nilT, nilT, nilT, nilT, zi 0] :: .box s 80 (psC x (.v (.slice C n c))) :: .row C n c 87 7 cs :: .box b8 51 (fnCells (x.prog.funs.getD fi default)) :: [])) (fun ⟨A23, A29, A32, b9⟩ => True) ?_ ?_
  ·
    rintro ⟨A23, A29, A32, b9⟩ _
    refine AWH.one (i := 6) (by kernel_rfl) rfl ?_ 
    ·
      refine AWL.makeRow (n := K) (c := K) rfl rfl (B rfl) rfl el_84 (E rfl rfl) (E rfl rfl) (Nat.le_refl _) (by omega) (by unfold maxLen; omega) (fun A26 => ?_)
      refine AWL.eqLast (mk_zero K) ?_
      refine AWL.perm (perm_ins (α := Ent) (F := [.row A23 R R 39 1 ((rJ args R 0).map zw)]) (G := (.row A29 R R 4 1 ((sJ R 0).map bv) :: .row A32 K K 4 1 ((List.replicate K false).map bv) :: .box b9 87 [zi 0, zi 0, nilT, nilT, nilT, nilT, zi 0] :: .box s 80 (psC x (.v (.slice C n c))) :: .row C n c 87 7 cs :: .box b8 51 (fnCells (x.prog.funs.getD fi default)) :: [])) (x := .row A26 K K 39 1 ((List.replicate K 0#64).map zw))) ?_
      refine AWL.nil (kpH (tcB 7 rfl rfl hpR (tcB 7 rfl rfl hpK tc0)) ?_)
      exact AWH.to (nd11111111111111010 (A23, A26, A29, A32, b9) trivial) (by kernel_rfl) rfl (Sub.cons rfl rfl (Sub.cons rfl rfl (Sub.cons rfl rfl (Sub.cons rfl rfl (Sub.cons rfl rfl (Sub.cons rfl rfl (Sub.cons rfl rfl (Sub.cons rfl rfl (Sub.cons rfl rfl (Sub.cons rfl rfl (Sub.cons rfl rfl (Sub.cons rfl rfl Sub.nil))))))))))))
  intro nd11111101111111010
  refine AWH.node (ι := Option Addr × Option Addr × Option Addr × Nat) 3 #[true, true, true, false, true, true, true, true, true, true, true, true, true, true, false, true, false] (fun ⟨A26, A29, A32, b9⟩ => [(20, true, zi fi), (22, true, .v (.int .i64 (R : Int))), (26, true, .v (.slice A26 K K)), (29, true, .v (.slice A29 R R)), (32, true, .v (.slice A32 K K)), (33, true, zi d), (9, true, .v (.pointer (some ⟨b9, 0, none⟩))), (0, true, .v (.pointer (some ⟨s, 0, none⟩))), (1, true, .v (.int .i64 (fi : Int))), (2, true, .sl 1 (args.map zw)), (3, true, zi d), (8, true, .v (.pointer (some ⟨b8, 0, none⟩)))]) (fun ⟨A26, A29, A32, b9⟩ => (.row A26 K K 39 1 ((List.replicate K 0#64).map zw) :: .row A29 R R 4 1 ((sJ R 0).map bv) :: .row A32 K K 4 1 ((List.replicate K false).map bv) :: .box b9 87 [zi 0, zi 0, nilT, nilT, nilT, nilT, zi 0] :: .box s 80 (psC x (.v (.slice C n c))) :: .row C n c 87 7 cs :: .box b8 51 (fnCells (x.prog.funs.getD fi default)) :: [])) (fun ⟨A26, A29, A32, b9⟩ => True) ?_ ?_
  ·
    rintro ⟨A26, A29, A32, b9⟩ _
    refine AWH.one (i := 3) (by kernel_rfl) rfl ?_ 
    ·
      refine AWL.makeRow (n := R) (c := R) rfl rfl (B rfl) rfl el_84 (E rfl rfl) (E rfl rfl) (Nat.le_refl _) (by omega) (by unfold maxLen; omega) (fun A23 => ?_)
      refine AWL.eqLast (zero_r args R) ?_
      refine AWL.perm (perm_ins (α := Ent) (F := []) (G := (.row A26 K K 39 1 ((List.replicate K 0#64).map zw) :: .row A29 R R 4 1 ((sJ R 0).map bv) :: .row A32 K K 4 1 ((List.replicate K false).map bv) :: .box b9 87 [zi 0, zi 0, nilT, nilT, nilT, nilT, zi 0] :: .box s 80 (psC x (.v (.slice C n c))) :: .row C n c 87 7 cs :: .box b8 51 (fnCells (x.prog.funs.getD fi default)) :: [])) (x := .row A23 R R 39 1 ((rJ args R 0).map zw))) ?_
      refine AWL.nil (kpH (tcB 7 rfl rfl hpR (tcB 7 rfl rfl hpK tc0)) ?_)
      exact AWH.to (nd11111111111111010 (A23, A26, A29, A32, b9) trivial) (by kernel_rfl) rfl (Sub.cons rfl rfl (Sub.cons rfl rfl (Sub.cons rfl rfl (Sub.cons rfl rfl (Sub.cons rfl rfl (Sub.cons rfl rfl (Sub.cons rfl rfl (Sub.cons rfl rfl (Sub.cons rfl rfl (Sub.cons rfl rfl (Sub.cons rfl rfl (Sub.cons rfl rfl Sub.nil))))))))))))
  intro nd11101111111111010
  refine AWH.node (ι := Option Addr × Option Addr × Option Addr) 4 #[true, true, true, true, true, true, true, true, true, true, true, true, false, true, false, false, false] (fun ⟨A23, A26, A29⟩ => [(20, true, zi fi), (23, true, .v (.slice A23 R R)), (26, true, .v (.slice A26 K K)), (29, true, .v (.slice A29 R R)), (31, true, .v (.int .i64 (K : Int))), (33, true, zi d), (0, true, .v (.pointer (some ⟨s, 0, none⟩))), (1, true, .v (.int .i64 (fi : Int))), (2, true, .sl 1 (args.map zw)), (3, true, zi d), (8, true, .v (.pointer (some ⟨b8, 0, none⟩)))]) (fun ⟨A23, A26, A29⟩ => (.row A23 R R 39 1 ((rJ args R 0).map zw) :: .row A26 K K 39 1 ((List.replicate K 0#64).map zw) :: .row A29 R R 4 1 ((sJ R 0).map bv) :: .box s 80 (psC x (.v (.slice C n c))) :: .row C n c 87 7 cs :: .box b8 51 (fnCells (x.prog.funs.getD fi default)) :: [])) (fun ⟨A23, A26, A29⟩ => True) ?_ ?_
  ·
    rintro ⟨A23, A26, A29⟩ _
    refine AWH.two (i := 12) (j := 15) (by kernel_rfl) rfl rfl ?_ ?_ 
    ·
      refine AWL.makeRow (n := K) (c := K) rfl rfl (B rfl) rfl el_85 (E rfl rfl) (E rfl rfl) (Nat.le_refl _) (by omega) (by unfold maxLen; omega) (fun A32 => ?_)
      refine AWL.eqLast (zero_b K) ?_
      refine AWL.perm (perm_ins (α := Ent) (F := [.row A23 R R 39 1 ((rJ args R 0).map zw), .row A26 K K 39 1 ((List.replicate K 0#64).map zw), .row A29 R R 4 1 ((sJ R 0).map bv)]) (G := (.box s 80 (psC x (.v (.slice C n c))) :: .row C n c 87 7 cs :: .box b8 51 (fnCells (x.prog.funs.getD fi default)) :: [])) (x := .row A32 K K 4 1 ((List.replicate K false).map bv))) ?_
      refine AWL.nil (kpH (tcB 6 rfl rfl hpR (tcB 6 rfl rfl hpK tc0)) ?_)
      exact AWH.to (nd11111111111111000 (A23, A26, A29, A32) trivial) (by kernel_rfl) rfl (Sub.cons rfl rfl (Sub.cons rfl rfl (Sub.cons rfl rfl (Sub.cons rfl rfl (Sub.cons rfl rfl (Sub.cons rfl rfl (Sub.cons rfl rfl (Sub.cons rfl rfl (Sub.cons rfl rfl (Sub.cons rfl rfl (Sub.cons rfl rfl Sub.nil)))))))))))
    ·
      refine AWL.allocOp rfl rfl (B rfl) rfl zc_87 (fun b9 => ?_)
      refine AWL.perm (perm_ins (α := Ent) (F := [.row A23 R R 39 1 ((rJ args R 0).map zw), .row A26 K K 39 1 ((List.replicate K 0#64).map zw), .row A29 R R 4 1 ((sJ R 0).map bv)]) (G := (.box s 80 (psC x (.v (.slice C n c))) :: .row C n c 87 7 cs :: .box b8 51 (fnCells (x.prog.funs.getD fi default)) :: [])) (x := .box b9 87 [zi 0, zi 0, nilT, nilT, nilT, nilT, zi 0])) ?_
      refine AWL.nil (kpH (tcB 6 rfl rfl hpR (tcB 6 rfl rfl hpK tc0)) ?_)
      exact AWH.to (nd11111111111101010 (A23, A26, A29, b9) trivial) (by kernel_rfl) rfl (Sub.cons rfl rfl (Sub.cons rfl rfl (Sub.cons rfl rfl (Sub.cons rfl rfl (Sub.cons rfl rfl (Sub.cons rfl rfl (Sub.cons rfl rfl (Sub.cons rfl rfl (Sub.cons rfl rfl (Sub.cons rfl rfl (Sub.cons rfl rfl (Sub.cons rfl rfl Sub.nil))))))))))))
  intro nd11111111111101000
  refine AWH.node (ι := Option Addr × Option Addr × Option Addr) 4 #[true, true, true, true, true, true, true, true, true, false, true, true, true, true, false, false, false] (fun ⟨A23, A26, A32⟩ => [(20, true, zi fi), (23, true, .v (.slice A23 R R)), (26, true, .v (.slice A26 K K)), (28, true, .v (.int .i64 (R : Int))), (32, true, .v (.slice A32 K K)), (33, true, zi d), (0, true, .v (.pointer (some ⟨s, 0, none⟩))), (1, true, .v (.int .i64 (fi : Int))), (2, true, .sl 1 (args.map zw)), (3, true, zi d), (8, true, .v (.pointer (some ⟨b8, 0, none⟩)))]) (fun ⟨A23, A26, A32⟩ => (.row A23 R R 39 1 ((rJ args R 0).map zw) :: .row A26 K K 39 1 ((List.replicate K 0#64).map zw) :: .row A32 K K 4 1 ((List.replicate K false).map bv) :: .box s 80 (psC x (.v (.slice C n c))) :: .row C n c 87 7 cs :: .box b8 51 (fnCells (x.prog.funs.getD fi default)) :: [])) (fun ⟨A23, A26, A32⟩ => True) ?_ ?_
  ·
    rintro ⟨A23, A26, A32⟩ _
    refine AWH.two (i := 9) (j := 15) (by kernel_rfl) rfl rfl ?_ ?_ 
    ·
      refine AWL.makeRow (n := R) (c := R) rfl rfl (B rfl) rfl el_85 (E rfl rfl) (E rfl rfl) (Nat.le_refl _) (by omega) (by unfold maxLen; omega) (fun A29 => ?_)
      refine AWL.eqLast (zero_s R) ?_
      refine AWL.perm (perm_ins (α := Ent) (F := [.row A23 R R 39 1 ((rJ args R 0).map zw), .row A26 K K 39 1 ((List.replicate K 0#64).map zw)]) (G := (.row A32 K K 4 1 ((List.replicate K false).map bv) :: .box s 80 (psC x (.v (.slice C n c))) :: .row C n c 87 7 cs :: .box b8 51 (fnCells (x.prog.funs.getD fi default)) :: [])) (x := .row A29 R R 4 1 ((sJ R 0).map bv))) ?_
      refine AWL.nil (kpH (tcB 6 rfl rfl hpR (tcB 6 rfl rfl hpK tc0)) ?_)
      exact AWH.to (nd11111111111111000 (A23, A26, A29, A32) trivial) (by kernel_rfl) rfl (Sub.cons rfl rfl (Sub.cons rfl rfl (Sub.cons rfl rfl (Sub.cons rfl rfl (Sub.cons rfl rfl (Sub.cons rfl rfl (Sub.cons rfl rfl (Sub.cons rfl rfl (Sub.cons rfl rfl (Sub.cons rfl rfl (Sub.cons rfl rfl Sub.nil)))))))))))
    ·
      refine AWL.allocOp rfl rfl (B rfl) rfl zc_87 (fun b9 => ?_)
      refine AWL.perm (perm_ins (α := Ent) (F := [.row A23 R R 39 1 ((rJ args R 0).map zw), .row A26 K K 39 1 ((List.replicate K 0#64).map zw), .row A32 K K 4 1 ((List.replicate K false).map bv)]) (G := (.box s 80 (psC x (.v (.slice C n c))) :: .row C n c 87 7 cs :: .box b8 51 (fnCells (x.prog.funs.getD fi default)) :: [])) (x := .box b9 87 [zi 0, zi 0, nilT, nilT, nilT, nilT, zi 0])) ?_
      refine AWL.nil (kpH (tcB 6 rfl rfl hpR (tcB 6 rfl rfl hpK tc0)) ?_)
      exact AWH.to (nd11111111101111010 (A23, A26, A32, b9) trivial) (by kernel_rfl) rfl (Sub.cons rfl rfl (Sub.cons rfl rfl (Sub.cons rfl rfl (Sub.cons rfl rfl (Sub.cons rfl rfl (Sub.cons rfl rfl (Sub.cons rfl rfl (Sub.cons rfl rfl (Sub.cons rfl rfl (Sub.cons rfl rfl (Sub.cons rfl rfl (Sub.cons rfl rfl Sub.nil))))))))))))
  intro nd11111111101111000
  refine AWH.node (ι := Option Addr × Option Addr × Nat) 4 #[true, true, true, true, true, true, true, true, true, false, true, true, false, true, false, true, false] (fun ⟨A23, A26, b9⟩ => [(20, true, zi fi), (23, true, .v (.slice A23 R R)), (26, true, .v (.slice A26 K K)), (28, true, .v (.int .i64 (R : Int))), (31, true, .v (.int .i64 (K : Int))), (33, true, zi d), (9, true, .v (.pointer (some ⟨b9, 0, none⟩))), (0, true, .v (.pointer (some ⟨s, 0, none⟩))), (1, true, .v (.int .i64 (fi : Int))), (2, true, .sl 1 (args.map zw)), (3, true, zi d), (8, true, .v (.pointer (some ⟨b8, 0, none⟩)))]) (fun ⟨A23, A26, b9⟩ => (.row A23 R R 39 1 ((rJ args R 0).map zw) :: .row A26 K K 39 1 ((List.replicate K 0#64).map zw) :: .box b9 87 [zi 0, zi 0, nilT, nilT, nilT, nilT, zi 0] :: .box s 80 (psC x (.v (.slice C n c))) :: .row C n c 87 7 cs :: .box b8 51 (fnCells (x.prog.funs.getD fi default)) :: [])) (fun ⟨A23, A26, b9⟩ => True) ?_ ?_
  ·
    rintro ⟨A23, A26, b9⟩ _
    refine AWH.two (i := 9) (j := 12) (by kernel_rfl) rfl rfl ?_ ?_ 
    ·
      refine AWL.makeRow (n := R) (c := R) rfl rfl (B rfl) rfl el_85 (E rfl rfl) (E rfl rfl) (Nat.le_refl _) (by omega) (by unfold maxLen; omega) (fun A29 => ?_)
      refine AWL.eqLast (zero_s R) ?_
      refine AWL.perm (perm_ins (α := Ent) (F := [.row A23 R R 39 1 ((rJ args R 0).map zw), .row A26 K K 39 1 ((List.replicate K 0#64).map zw)]) (G := (.box b9 87 [zi 0, zi 0, nilT, nilT, nilT, nilT, zi 0] :: .box s 80 (psC x (.v (.slice C n c))) :: .row C n c 87 7 cs :: .box b8 51 (fnCells (x.prog.funs.getD fi default)) :: [])) (x := .row A29 R R 4 1 ((sJ R 0).map bv))) ?_
      refine AWL.nil (kpH (tcB 6 rfl rfl hpR (tcB 6 rfl rfl hpK tc0)) ?_)
      exact AWH.to (nd11111111111101010 (A23, A26, A29, b9) trivial) (by kernel_rfl) rfl (Sub.cons rfl rfl (Sub.cons rfl rfl (Sub.cons rfl rfl (Sub.cons rfl rfl (Sub.cons rfl rfl (Sub.cons rfl rfl (Sub.cons rfl rfl (Sub.cons rfl rfl (Sub.cons rfl rfl (Sub.cons rfl rfl (Sub.cons rfl rfl (Sub.cons rfl rfl Sub.nil))))))))))))
    ·
      refine AWL.makeRow (n := K) (c := K) rfl rfl (B rfl) rfl el_85 (E rfl rfl) (E rfl rfl) (Nat.le_refl _) (by omega) (by unfold maxLen; omega) (fun A32 => ?_)
      refine AWL.eqLast (zero_b K) ?_
      refine AWL.perm (perm_ins (α := Ent) (F := [.row A23 R R 39 1 ((rJ args R 0).map zw), .row A26 K K 39 1 ((List.replicate K 0#64).map zw)]) (G := (.box b9 87 [zi 0, zi 0, nilT, nilT, nilT, nilT, zi 0] :: .box s 80 (psC x (.v (.slice C n c))) :: .row C n c 87 7 cs :: .box b8 51 (fnCells (x.prog.funs.getD fi default)) :: [])) (x := .row A32 K K 4 1 ((List.replicate K false).map bv))) ?_
      refine AWL.nil (kpH (tcB 6 rfl rfl hpR (tcB 6 rfl rfl hpK tc0)) ?_)
      exact AWH.to (nd11111111101111010 (A23, A26, A32, b9) trivial) (by kernel_rfl) rfl (Sub.cons rfl rfl (Sub.cons rfl rfl (Sub.cons rfl rfl (Sub.cons rfl rfl (Sub.cons rfl rfl (Sub.cons rfl rfl (Sub.cons rfl rfl (Sub.cons rfl rfl (Sub.cons rfl rfl (Sub.cons rfl rfl (Sub.cons rfl rfl (Sub.cons rfl rfl Sub.nil))))))))))))
  intro nd11111111101101010
  refine AWH.node (ι := Option Addr × Option Addr × Option Addr) 4 #[true, true, true, true, true, true, false, true, true, true, true, true, true, true, false, false, false] (fun ⟨A23, A29, A32⟩ => [(20, true, zi fi), (23, true, .v (.slice A23 R R)), (25, true, .v (.int .i64 (K : Int))), (29, true, .v (.slice A29 R R)), (32, true, .v (.slice A32 K K)), (33, true, zi d), (0, true, .v (.pointer (some ⟨s, 0, none⟩))), (1, true, .v (.int .i64 (fi : Int))), (2, true, .sl 1 (args.map zw)), (3, true, zi d), (8, true, .v (.pointer (some ⟨b8, 0, none⟩)))]) (fun ⟨A23, A29, A32⟩ => (.row A23 R R 39 1 ((rJ args R 0).map zw) :: .row A29 R R 4 1 ((sJ R 0).map bv) :: .row A32 K K 4 1 ((List.replicate K false).map bv) :: .box s 80 (psC x (.v (.slice C n c))) :: .row C n c 87 7 cs :: .box b8 51 (fnCells (x.prog.funs.getD fi default)) :: [])) (fun ⟨A23, A29, A32⟩ => True) ?_ ?_
  ·
    rintro ⟨A23, A29, A32⟩ _
    refine AWH.two (i := 6) (j := 15) (by kernel_rfl) rfl rfl ?_ ?_ 
    ·
      refine AWL.makeRow (n := K) (c := K) rfl rfl (B rfl) rfl el_84 (E rfl rfl) (E rfl rfl) (Nat.le_refl _) (by omega) (by unfold maxLen; omega) (fun A26 => ?_)
      refine AWL.eqLast (mk_zero K) ?_
      refine AWL.perm (perm_ins (α := Ent) (F := [.row A23 R R 39 1 ((rJ args R 0).map zw)]) (G := (.row A29 R R 4 1 ((sJ R 0).map bv) :: .row A32 K K 4 1 ((List.replicate K false).map bv) :: .box s 80 (psC x (.v (.slice C n c))) :: .row C n c 87 7 cs :: .box b8 51 (fnCells (x.prog.funs.getD fi default)) :: [])) (x := .row A26 K K 39 1 ((List.replicate K 0#64).map zw))) ?_
      refine AWL.nil (kpH (tcB 6 rfl rfl hpR (tcB 6 rfl rfl hpK tc0)) ?_)
      exact AWH.to (nd11111111111111000 (A23, A26, A29, A32) trivial) (by kernel_rfl) rfl (Sub.cons rfl rfl (Sub.cons rfl rfl (Sub.cons rfl rfl (Sub.cons rfl rfl (Sub.cons rfl rfl (Sub.cons rfl rfl (Sub.cons rfl rfl (Sub.cons rfl rfl (Sub.cons rfl rfl (Sub.cons rfl rfl (Sub.cons rfl rfl Sub.nil)))))))))))
    ·
      refine AWL.allocOp rfl rfl (B rfl) rfl zc_87 (fun b9 => ?_)
      refine AWL.perm (perm_ins (α := Ent) (F := [.row A23 R R 39 1 ((rJ args R 0).map zw), .row A29 R R 4 1 ((sJ R 0).map bv), .row A32 K K 4 1 ((List.replicate K false).map bv)]) (G := (.box s 80 (psC x (.v (.slice C n c))) :: .row C n c 87 7 cs :: .box b8 51 (fnCells (x.prog.funs.getD fi default)) :: [])) (x := .box b9 87 [zi 0, zi 0, nilT, nilT, nilT, nilT, zi 0])) ?_
      refine AWL.nil (kpH (tcB 6 rfl rfl hpR (tcB 6 rfl rfl hpK tc0)) ?_)
      exact AWH.to (nd11111101111111010 (A23, A29, A32, b9) trivial) (by kernel_rfl) rfl (Sub.cons rfl rfl (Sub.cons rfl rfl (Sub.cons rfl rfl (Sub.cons rfl rfl (Sub.cons rfl rfl (Sub.cons rfl rfl (Sub.cons rfl rfl (Sub.cons rfl rfl (Sub.cons rfl rfl (Sub.cons rfl rfl (Sub.cons rfl rfl (Sub.cons rfl rfl Sub.nil))))))))))))
  intro nd11111101111111000
  refine AWH.node (ι := Option Addr × Option Addr × Nat) 4 #[true, true, true, true, true, true, false, true, true, true, true, true, false, true, false, true, false] (fun ⟨A23, A29, b9⟩ => [(20, true, zi fi), (23, true, .v (.slice A23 R R)), (25, true, .v (.int .i64 (K : Int))), (29, true, .v (.slice A29 R R)), (31, true, .v (.int .i64 (K : Int))), (33, true, zi d), (9, true, .v (.pointer (some ⟨b9, 0, none⟩))), (0, true, .v (.pointer (some ⟨s, 0, none⟩))), (1, true, .v (.int .i64 (fi : Int))), (2, true, .sl 1 (args.map zw)), (3, true, zi d), (8, true, .v (.pointer (some ⟨b8, 0, none⟩)))]) (fun ⟨A23, A29, b9⟩ => (.row A23 R R 39 1 ((rJ args R 0).map zw) :: .row A29 R R 4 1 ((sJ R 0).map bv) :: .box b9 87 [zi 0, zi 0, nilT, nilT, nilT, nilT, zi 0] :: .box s 80 (psC x (.v (.slice C n c))) :: .row C n c 87 7 cs :: .box b8 51 (fnCells (x.prog.funs.getD fi default)) :: [])) (fun ⟨A23, A29, b9⟩ => True) ?_ ?_
  ·
    rintro ⟨A23, A29, b9⟩ _
    refine AWH.two (i := 6) (j := 12) (by kernel_rfl) rfl rfl ?_ ?_ 
    ·
      refine AWL.makeRow (n := K) (c := K) rfl rfl (B rfl) rfl el_84 (E rfl rfl) (E rfl rfl) (Nat.le_refl _) (by omega) (by unfold maxLen; omega) (fun A26 => ?_)
      refine AWL.eqLast (mk_zero K) ?_
      refine AWL.perm (perm_ins (α := Ent) (F := [.row A23 R R 39 1 ((rJ args R 0).map zw)]) (G := (.row A29 R R 4 1 ((sJ R 0).map bv) :: .box b9 87 [zi 0, zi 0, nilT, nilT, nilT, nilT, zi 0] :: .box s 80 (psC x (.v (.slice C n c))) :: .row C n c 87 7 cs :: .box b8 51 (fnCells (x.prog.funs.getD fi default)) :: [])) (x := .row A26 K K 39 1 ((List.replicate K 0#64).map zw))) ?_
      refine AWL.nil (kpH (tcB 6 rfl rfl hpR (tcB 6 rfl rfl hpK tc0)) ?_)
      exact AWH.to (nd11111111111101010 (A23, A26, A29, b9) trivial) (by kernel_rfl) rfl (Sub.cons rfl rfl (Sub.cons rfl rfl (Sub.cons rfl rfl (Sub.cons rfl rfl (Sub.cons rfl rfl (Sub.cons rfl rfl (Sub.cons rfl rfl (Sub.cons rfl rfl (Sub.cons rfl rfl (Sub.cons rfl rfl (Sub.cons rfl rfl (Sub.cons rfl rfl Sub.nil))))))))))))
    ·
      refine AWL.makeRow (n := K) (c := K) rfl rfl (B rfl) rfl el_85 (E rfl rfl) (E rfl rfl) (Nat.le_refl _) (by omega) (by unfold maxLen; omega) (fun A32 => ?_)
      refine AWL.eqLast (zero_b K) ?_
      refine AWL.perm (perm_ins (α := Ent) (F := [.row A23 R R 39 1 ((rJ args R 0).map zw), .row A29 R R 4 1 ((sJ R 0).map bv)]) (G := (.box b9 87 [zi 0, zi 0, nilT, nilT, nilT, nilT, zi 0] :: .box s 80 (psC x (.v (.slice C n c))) :: .row C n c 87 7 cs :: .box b8 51 (fnCells (x.prog.funs.getD fi default)) :: [])) (x := .row A32 K K 4 1 ((List.replicate K false).map bv))) ?_
      refine AWL.nil (kpH (tcB 6 rfl rfl hpR (tcB 6 rfl rfl hpK tc0)) ?_)
      exact AWH.to (nd11111101111111010 (A23, A29, A32, b9) trivial) (by kernel_rfl) rfl (Sub.cons rfl rfl (Sub.cons rfl rfl (Sub.cons rfl rfl (Sub.cons rfl rfl (Sub.cons rfl rfl (Sub.cons rfl rfl (Sub.cons rfl rfl (Sub.cons rfl rfl (Sub.cons rfl rfl (Sub.cons rfl rfl (Sub.cons rfl rfl (Sub.cons rfl rfl Sub.nil))))))))))))
  intro nd11111101111101010
  refine AWH.node (ι := Option Addr × Option Addr × Nat) 4 #[true, true, true, true, true, true, false, true, true, false, true, true, true, true, false, true, false] (fun ⟨A23, A32, b9⟩ => [(20, true, zi fi), (23, true, .v (.slice A23 R R)), (25, true, .v (.int .i64 (K : Int))), (28, true, .v (.int .i64 (R : Int))), (32, true, .v (.slice A32 K K)), (33, true, zi d), (9, true, .v (.pointer (some ⟨b9, 0, none⟩))), (0, true, .v (.pointer (some ⟨s, 0, none⟩))), (1, true, .v (.int .i64 (fi : Int))), (2, true, .sl 1 (args.map zw)), (3, true, zi d), (8, true, .v (.pointer (some ⟨b8, 0, none⟩)))]) (fun ⟨A23, A32, b9⟩ => (.row A23 R R 39 1 ((rJ args R 0).map zw) :: .row A32 K K 4 1 ((List.replicate K false).map bv) :: .box b9 87 [zi 0, zi 0, nilT, nilT, nilT, nilT, zi 0] :: .box s 80 (psC x (.v (.slice C n c))) :: .row C n c 87 7 cs :: .box b8 51 (fnCells (x.prog.funs.getD fi default)) :: [])) (fun ⟨A23, A32, b9⟩ => True) ?_ ?_
  ·
    rintro ⟨A23, A32, b9⟩ _
    refine AWH.two (i := 6) (j := 9) (by kernel_rfl) rfl rfl ?_ ?_ 
    ·
      refine AWL.makeRow (n := K) (c := K) rfl rfl (B rfl) rfl el_84 (E rfl rfl) (E rfl rfl) (Nat.le_refl _) (by omega) (by unfold maxLen; omega) (fun A26 => ?_)
      refine AWL.eqLast (mk_zero K) ?_
      refine AWL.perm (perm_ins (α := Ent) (F := [.row A23 R R 39 1 ((rJ args R 0).map zw)]) (G := (.row A32 K K 4 1 ((List.replicate K false).map bv) :: .box b9 87 [zi 0, zi 0, nilT, nilT, nilT, nilT, zi 0] :: .box s 80 (psC x (.v (.slice C n c))) :: .row C n c 87 7 cs :: .box b8 51 (fnCells (x.prog.funs.getD fi default)) :: [])) (x := .row A26 K K 39 1 ((List.replicate K 0#64).map zw))) ?_
      refine AWL.nil (kpH (tcB 6 rfl rfl hpR (tcB 6 rfl rfl hpK tc0)) ?_)
      exact AWH.to (nd11111111101111010 (A23, A26, A32, b9) trivial) (by kernel_rfl) rfl (Sub.cons rfl rfl (Sub.cons rfl rfl (Sub.cons rfl rfl (Sub.cons rfl rfl (Sub.cons rfl rfl (Sub.cons rfl rfl (Sub.cons rfl rfl (Sub.cons rfl rfl (Sub.cons rfl rfl (Sub.cons rfl rfl (Sub.cons rfl rfl (Sub.cons rfl rfl Sub.nil))))))))))))
    ·
      refine AWL.makeRow (n := R) (c := R) rfl rfl (B rfl) rfl el_85 (E rfl rfl) (E rfl rfl) (Nat.le_refl _) (by omega) (by unfold maxLen; omega) (fun A29 => ?_)
      refine AWL.eqLast (zero_s R) ?_
      refine AWL.perm (perm_ins (α := Ent) (F := [.row A23 R R 39 1 ((rJ args R 0).map zw)]) (G := (.row A32 K K 4 1 ((List.replicate K false).map bv) :: .box b9 87 [zi 0, zi 0, nilT, nilT, nilT, nilT, zi 0] :: .box s 80 (psC x (.v (.slice C n c))) :: .row C n c 87 7 cs :: .box b8 51 (fnCells (x.prog.funs.getD fi default)) :: [])) (x := .row A29 R R 4 1 ((sJ R 0).map bv))) ?_
      refine AWL.nil (kpH (tcB 6 rfl rfl hpR (tcB 6 rfl rfl hpK tc0)) ?_)
      exact AWH.to (nd11111101111111010 (A23, A29, A32, b9) trivial) (by kernel_rfl) rfl (Sub.cons rfl rfl (Sub.cons rfl rfl (Sub.cons rfl rfl (Sub.cons rfl rfl (Sub.cons rfl rfl (Sub.cons rfl rfl (Sub.cons rfl rfl (Sub.cons rfl rfl (Sub.cons rfl rfl (Sub.cons rfl rfl (Sub.cons rfl rfl (Sub.cons rfl rfl Sub.nil))))))))))))
  intro nd11111101101111010
  refine AWH.node (ι := Option Addr × Option Addr × Option Addr) 4 #[true, true, true, false, true, true, true, true, true, true, true, true, true, true, false, false, false] (fun ⟨A26, A29, A32⟩ => [(20, true, zi fi), (22, true, .v (.int .i64 (R : Int))), (26, true, .v (.slice A26 K K)), (29, true, .v (.slice A29 R R)), (32, true, .v (.slice A32 K K)), (33, true, zi d), (0, true, .v (.pointer (some ⟨s, 0, none⟩))), (1, true, .v (.int .i64 (fi : Int))), (2, true, .sl 1 (args.map zw)), (3, true, zi d), (8, true, .v (.pointer (some ⟨b8, 0, none⟩)))]) (fun ⟨A26, A29, A32⟩ => (.row A26 K K 39 1 ((List.replicate K 0#64).map zw) :: .row A29 R R 4 1 ((sJ R 0).map bv) :: .row A32 K K 4 1 ((List.replicate K false).map bv) :: .box s 80 (psC x (.v (.slice C n c))) :: .row C n c 87 7 cs :: .box b8 51 (fnCells (x.prog.funs.getD fi default)) :: [])) (fun ⟨A26, A29, A32⟩ => True) ?_ ?_
  ·
    rintro ⟨A26, A29, A32⟩ _
    refine AWH.two (i := 3) (j := 15) (by kernel_rfl) rfl rfl ?_ ?_ 
    ·
      refine AWL.makeRow (n := R) (c := R) rfl rfl (B rfl) rfl el_84 (E rfl rfl) (E rfl rfl) (Nat.le_refl _) (by omega) (by unfold maxLen; omega) (fun A23 => ?_)
      refine AWL.eqLast (zero_r args R) ?_
      refine AWL.perm (perm_ins (α := Ent) (F := []) (G := (.row A26 K K 39 1 ((List.replicate K 0#64).map zw) :: .row A29 R R 4 1 ((sJ R 0).map bv) :: .row A32 K K 4 1 ((List.replicate K false).map bv) :: .box s 80 (psC x (.v (.slice C n c))) :: .row C n c 87 7 cs :: .box b8 51 (fnCells (x.prog.funs.getD fi default)) :: [])) (x := .row A23 R R 39 1 ((rJ args R 0).map zw))) ?_
      refine AWL.nil (kpH (tcB 6 rfl rfl hpR (tcB 6 rfl rfl hpK tc0)) ?_)
      exact AWH.to (nd11111111111111000 (A23, A26, A29, A32) trivial) (by kernel_rfl) rfl (Sub.cons rfl rfl (Sub.cons rfl rfl (Sub.cons rfl rfl (Sub.cons rfl rfl (Sub.cons rfl rfl (Sub.cons rfl rfl (Sub.cons rfl rfl (Sub.cons rfl rfl (Sub.cons rfl rfl (Sub.cons rfl rfl (Sub.cons rfl rfl Sub.nil)))))))))))
    ·
      refine AWL.allocOp rfl rfl (B rfl) rfl zc_87 (fun b9 => ?_)
      refine AWL.perm (perm_ins (α := Ent) (F := [.row A26 K K 39 1 ((List.replicate K 0#64).map zw), .row A29 R R 4 1 ((sJ R 0).map bv), .row A32 K K 4 1 ((List.replicate K false).map bv)]) (G := (.box s 80 (psC x (.v (.slice C n c))) :: .row C n c 87 7 cs :: .box b8 51 (fnCells (x.prog.funs.getD fi default)) :: [])) (x := .box b9 87 [zi 0, zi 0, nilT, nilT, nilT, nilT, zi 0])) ?_
      refine AWL.nil (kpH (tcB 6 rfl rfl hpR (tcB 6 rfl rfl hpK tc0)) ?_)
      exact AWH.to (nd11101111111111010 (A26, A29, A32, b9) trivial) (by kernel_rfl) rfl (Sub.cons rfl rfl (Sub.cons rfl rfl (Sub.cons rfl rfl (Sub.cons rfl rfl (Sub.cons rfl rfl (Sub.cons rfl rfl (Sub.cons rfl rfl (Sub.cons rfl rfl (Sub.cons rfl rfl (Sub.cons rfl rfl (Sub.cons rfl rfl (Sub.cons rfl rfl Sub.nil))))))))))))
  intro nd11101111111111000
  refine AWH.node (ι := Option Addr × Option Addr × Nat) 4 #[true, true, true, false, true, true, true, true, true, true, true, true, false, true, false, true, false] (fun ⟨A26, A29, b9⟩ => [(20, true, zi fi), (22, true, .v (.int .i64 (R : Int))), (26, true, .v (.slice A26 K K)), (29, true, .v (.slice A29 R R)), (31, true, .v (.int .i64 (K : Int))), (33, true, zi d), (9, true, .v (.pointer (some ⟨b9, 0, none⟩))), (0, true, .v (.pointer (some ⟨s, 0, none⟩))), (1, true, .v (.int .i64 (fi : Int))), (2, true, .sl 1 (args.map zw)), (3, true, zi d), (8, true, .v (.pointer (some ⟨b8, 0, none⟩)))]) (fun ⟨A26, A29, b9⟩ => (.row A26 K K 39 1 ((List.replicate K 0#64).map zw) :: .row A29 R R 4 1 ((sJ R 0).map bv) :: .box b9 87 [zi 0, zi 0, nilT, nilT, nilT, nilT, zi 0] :: .box s 80 (psC x (.v (.slice C n c))) :: .row C n c 87 7 cs :: .box b8 51 (fnCells (x.prog.funs.getD fi default)) :: [])) (fun ⟨A26, A29, b9⟩ => True) ?_ ?_
  ·
    rintro ⟨A26, A29, b9⟩ _
    refine AWH.two (i := 3) (j := 12) (by kernel_rfl) rfl rfl ?_ ?_ 
    ·
      refine AWL.makeRow (n := R) (c := R) rfl rfl (B rfl) rfl el_84 (E rfl rfl) (E rfl rfl) (Nat.le_refl _) (by omega) (by unfold maxLen; omega) (fun A23 => ?_)
      refine AWL.eqLast (zero_r args R) ?_
      refine AWL.perm (perm_ins (α := Ent) (F := []) (G := (.row A26 K K 39 1 ((List.replicate K 0#64).map zw) :: .row A29 R R 4 1 ((sJ R 0).map bv) :: .box b9 87 [zi 0, zi 0, nilT, nilT, nilT, nilT, zi 0] :: .box s 80 (psC x (.v (.slice C n c))) :: .row C n c 87 7 cs :: .box b8 51 (fnCells (x.prog.funs.getD fi default)) :: [])) (x := .row A23 R R 39 1 ((rJ args R 0).map zw))) ?_
      refine AWL.nil (kpH (tcB 6 rfl rfl hpR (tcB 6 rfl rfl hpK tc0)) ?_)
      exact AWH.to (nd11111111111101010 (A23, A26, A29, b9) trivial) (by kernel_rfl) rfl (Sub.cons rfl rfl (Sub.cons rfl rfl (Sub.cons rfl rfl (Sub.cons rfl rfl (Sub.cons rfl rfl (Sub.cons rfl rfl (Sub.cons rfl rfl (Sub.cons rfl rfl (Sub.cons rfl rfl (Sub.cons rfl rfl (Sub.cons rfl rfl (Sub.cons rfl rfl Sub.nil))))))))))))
    ·
      refine AWL.makeRow (n := K) (c := K) rfl rfl (B rfl) rfl el_85 (E rfl rfl) (E rfl rfl) (Nat.le_refl _) (by omega) (by unfold maxLen; omega) (fun A32 => ?_)
      refine AWL.eqLast (zero_b K) ?_
      refine AWL.perm (perm_ins (α := Ent) (F := [.row A26 K K 39 1 ((List.replicate K 0#64).map zw), .row A29 R R 4 1 ((sJ R 0).map bv)]) (G := (.box b9 87 [zi 0, zi 0, nilT, nilT, nilT, nilT, zi 0] :: .box s 80 (psC x (.v (.slice C n c))) :: .row C n c 87 7 cs :: .box b8 51 (fnCells (x.prog.funs.getD fi default)) :: [])) (x := .row A32 K K 4 1 ((List.replicate K false).map bv))) ?_
      refine AWL.nil (kpH (tcB 6 rfl rfl hpR (tcB 6 rfl rfl hpK tc0)) ?_)
      exact AWH.to (nd11101111111111010 (A26, A29, A32, b9) trivial) (by kernel_rfl) rfl (Sub.cons rfl rfl (Sub.cons rfl rfl (Sub.cons rfl rfl (Sub.cons rfl rfl (Sub.cons rfl rfl (Sub.cons rfl rfl (Sub.cons rfl rfl (Sub.cons rfl rfl (Sub.cons rfl rfl (Sub.cons rfl rfl (Sub.cons rfl rfl (Sub.cons rfl rfl Sub.nil))))))))))))
  intro nd11101111111101010
  refine AWH.node (ι := Option Addr × Option Addr × Nat) 4 #[true, true, true, false, true, true, true, true, true, false, true, true, true, true, false, true, false] (fun ⟨A26, A32, b9⟩ => [(20, true, zi fi), (22, true, .v (.int .i64 (R : Int))), (26, true, .v (.slice A26 K K)), (28, true, .v (.int .i64 (R : Int))), (32, true, .v (.slice A32 K K)), (33, true, zi d), (9, true, .v (.pointer (some ⟨b9, 0, none⟩))), (0, true, .v (.pointer (some ⟨s, 0, none⟩))), (1, true, .v (.int .i64 (fi : Int))), (2, true, .sl 1 (args.map zw)), (3, true, zi d), (8, true, .v (.pointer (some ⟨b8, 0, none⟩)))]) (fun ⟨A26, A32, b9⟩ => (.row A26 K K 39 1 ((List.replicate K 0#64).map zw) :: .row A32 K K 4 1 ((List.replicate K false).map bv) :: .box b9 87 [zi 0, zi 0, nilT, nilT, nilT, nilT, zi 0] :: .box s 80 (psC x (.v (.slice C n c))) :: .row C n c 87 7 cs :: .box b8 51 (fnCells (x.prog.funs.getD fi default)) :: [])) (fun ⟨A26, A32, b9⟩ => True) ?_ ?_
  ·
    rintro ⟨A26, A32, b9⟩ _
    refine AWH.two (i := 3) (j := 9) (by kernel_rfl) rfl rfl ?_ ?_ 
    ·
      refine AWL.makeRow (n := R) (c := R) rfl rfl (B rfl) rfl el_84 (E rfl rfl) (E rfl rfl) (Nat.le_refl _) (by omega) (by unfold maxLen; omega) (fun A23 => ?_)
      refine AWL.eqLast (zero_r args R) ?_
      refine AWL.perm (perm_ins (α := Ent) (F := []) (G := (.row A26 K K 39 1 ((List.replicate K 0#64).map zw) :: .row A32 K K 4 1 ((List.replicate K false).map bv) :: .box b9 87 [zi 0, zi 0, nilT, nilT, nilT, nilT, zi 0] :: .box s 80 (psC x (.v (.slice C n c))) :: .row C n c 87 7 cs :: .box b8 51 (fnCells (x.prog.funs.getD fi default)) :: [])) (x := .row A23 R R 39 1 ((rJ args R 0).map zw))) ?_
      refine AWL.nil (kpH (tcB 6 rfl rfl hpR (tcB 6 rfl rfl hpK tc0)) ?_)
      exact AWH.to (nd11111111101111010 (A23, A26, A32, b9) trivial) (by kernel_rfl) rfl (Sub.cons rfl rfl (Sub.cons rfl rfl (Sub.cons rfl rfl (Sub.cons rfl rfl (Sub.cons rfl rfl (Sub.cons rfl rfl (Sub.cons rfl rfl (Sub.cons rfl rfl (Sub.cons rfl rfl (Sub.cons rfl rfl (Sub.cons rfl rfl (Sub.cons rfl rfl Sub.nil))))))))))))
    ·
      refine AWL.makeRow (n := R) (c := R) rfl rfl (B rfl) rfl el_85 (E rfl rfl) (E rfl rfl) (Nat.le_refl _) (by omega) (by unfold maxLen; omega) (fun A29 => ?_)
      refine AWL.eqLast (zero_s R) ?_
      refine AWL.perm (perm_ins (α := Ent) (F := [.row A26 K K 39 1 ((List.replicate K 0#64).map zw)]) (G := (.row A32 K K 4 1 ((List.replicate K false).map bv) :: .box b9 87 [zi 0, zi 0, nilT, nilT, nilT, nilT, zi 0] :: .box s 80 (psC x (.v (.slice C n c))) :: .row C n c 87 7 cs :: .box b8 51 (fnCells (x.prog.funs.getD fi default)) :: [])) (x := .row A29 R R 4 1 ((sJ R 0).map bv))) ?_
      refine AWL.nil (kpH (tcB 6 rfl rfl hpR (tcB 6 rfl rfl hpK tc0)) ?_)
      exact AWH.to (nd11101111111111010 (A26, A29, A32, b9) trivial) (by kernel_rfl) rfl (Sub.cons rfl rfl (Sub.cons rfl rfl (Sub.cons rfl rfl (Sub.cons rfl rfl (Sub.cons rfl rfl (Sub.cons rfl rfl (Sub.cons rfl rfl (Sub.cons rfl rfl (Sub.cons rfl rfl (Sub.cons rfl rfl (Sub.cons rfl rfl (Sub.cons rfl rfl Sub.nil))))))))))))
  intro nd11101111101111010
  refine AWH.node (ι := Option Addr × Option Addr × Nat) 4 #[true, true, true, false, true, true, false, true, true, true, true, true, true, true, false, true, false] (fun ⟨A29, A32, b9⟩ => [(20, true, zi fi), (22, true, .v (.int .i64 (R : Int))), (25, true, .v (.int .i64 (K : Int))), (29, true, .v (.slice A29 R R)), (32, true, .v (.slice A32 K K)), (33, true, zi d), (9, true, .v (.pointer (some ⟨b9, 0, none⟩))), (0, true, .v (.pointer (some ⟨s, 0, none⟩))), (1, true, .v (.int .i64 (fi : Int))), (2, true, .sl 1 (args.map zw)), (3, true, zi d), (8, true, .v (.pointer (some ⟨b8, 0, none⟩)))]) (fun ⟨A29, A32, b9⟩ => (.row A29 R R 4 1 ((sJ R 0).map bv) :: .row A32 K K 4 1 ((List.replicate K false).map bv) :: .box b9 87 [zi 0, zi 0, nilT, nilT, nilT, nilT, zi 0] :: .box s 80 (psC x (.v (.slice C n c))) :: .row C n c 87 7 cs :: .box b8 51 (fnCells (x.prog.funs.getD fi default)) :: [])) (fun ⟨A29, A32, b9⟩ => True) ?_ ?_
  ·
    rintro ⟨A29, A32, b9⟩ _
    refine AWH.two (i := 3) (j := 6) (by kernel_rfl) rfl rfl ?_ ?_ 
    ·
      refine AWL.makeRow (n := R) (c := R) rfl rfl (B rfl) rfl el_84 (E rfl rfl) (E rfl rfl) (Nat.le_refl _) (by omega) (by unfold maxLen; omega) (fun A23 => ?_)
      refine AWL.eqLast (zero_r args R) ?_
      refine AWL.perm (perm_ins (α := Ent) (F := []) (G := (.row A29 R R 4 1 ((sJ R 0).map bv) :: .row A32 K K 4 1 ((List.replicate K false).map bv) :: .box b9 87 [zi 0, zi 0, nilT, nilT, nilT, nilT, zi 0] :: .box s 80 (psC x (.v (.slice C n c))) :: .row C n c 87 7 cs :: .box b8 51 (fnCells (x.prog.funs.getD fi default)) :: [])) (x := .row A23 R R 39 1 ((rJ args R 0).map zw))) ?_
      refine AWL.nil (kpH (tcB 6 rfl rfl hpR (tcB 6 rfl rfl hpK tc0)) ?_)
      exact AWH.to (nd11111101111111010 (A23, A29, A32, b9) trivial) (by kernel_rfl) rfl (Sub.cons rfl rfl (Sub.cons rfl rfl (Sub.cons rfl rfl (Sub.cons rfl rfl (Sub.cons rfl rfl (Sub.cons rfl rfl (Sub.cons rfl rfl (Sub.cons rfl rfl (Sub.cons rfl rfl (Sub.cons rfl rfl (Sub.cons rfl rfl (Sub.cons rfl rfl Sub.nil))))))))))))
    ·
      refine AWL.makeRow (n := K) (c := K) rfl rfl (B rfl) rfl el_84 (E rfl rfl) (E rfl rfl) (Nat.le_refl _) (by omega) (by unfold maxLen; omega) (fun A26 => ?_)
      refine AWL.eqLast (mk_zero K) ?_
      refine AWL.perm (perm_ins (α := Ent) (F := []) (G := (.row A29 R R 4 1 ((sJ R 0).map bv) :: .row A32 K K 4 1 ((List.replicate K false).map bv) :: .box b9 87 [zi 0, zi 0, nilT, nilT, nilT, nilT, zi 0] :: .box s 80 (psC x (.v (.slice C n c))) :: .row C n c 87 7 cs :: .box b8 51 (fnCells (x.prog.funs.getD fi default)) :: [])) (x := .row A26 K K 39 1 ((List.replicate K 0#64).map zw))) ?_
      refine AWL.nil (kpH (tcB 6 rfl rfl hpR (tcB 6 rfl rfl hpK tc0)) ?_)
      exact AWH.to (nd11101111111111010 (A26, A29, A32, b9) trivial) (by kernel_rfl) rfl (Sub.cons rfl rfl (Sub.cons rfl rfl (Sub.cons rfl rfl (Sub.cons rfl rfl (Sub.cons rfl rfl (Sub.cons rfl rfl (Sub.cons rfl rfl (Sub.cons rfl rfl (Sub.cons rfl rfl (Sub.cons rfl rfl (Sub.cons rfl rfl (Sub.cons rfl rfl Sub.nil))))))))))))
  intro nd11101101111111010
  refine AWH.node (ι := Option Addr × Option Addr) 5 #[true, true, true, true, true, true, true, true, true, false, true, true, false, true, false, false, false] (fun ⟨A23, A26⟩ => [(20, true, zi fi), (23, true, .v (.slice A23 R R)), (26, true, .v (.slice A26 K K)), (28, true, .v (.int .i64 (R : Int))), (31, true, .v (.int .i64 (K : Int))), (33, true, zi d), (0, true, .v (.pointer (some ⟨s, 0, none⟩))), (1, true, .v (.int .i64 (fi : Int))), (2, true, .sl 1 (args.map zw)), (3, true, zi d), (8, true, .v (.pointer (some ⟨b8, 0, none⟩)))]) (fun ⟨A23, A26⟩ => (.row A23 R R 39 1 ((rJ args R 0).map zw) :: .row A26 K K 39 1 ((List.replicate K 0#64).map zw) :: .box s 80 (psC x (.v (.slice C n c))) :: .row C n c 87 7 cs :: .box b8 51 (fnCells (x.prog.funs.getD fi default)) :: [])) (fun ⟨A23, A26⟩ => True) ?_ ?_
  ·
    rintro ⟨A23, A26⟩ _
    refine AWH.three (i := 9) (j := 12) (k := 15) (by kernel_rfl) rfl rfl rfl ?_ ?_ ?_ 
    ·
      refine AWL.makeRow (n := R) (c := R) rfl rfl (B rfl) rfl el_85 (E rfl rfl) (E rfl rfl) (Nat.le_refl _) (by omega) (by unfold maxLen; omega) (fun A29 => ?_)
      refine AWL.eqLast (zero_s R) ?_
      refine AWL.perm (perm_ins (α := Ent) (F := [.row A23 R R 39 1 ((rJ args R 0).map zw), .row A26 K K 39 1 ((List.replicate K 0#64).map zw)]) (G := (.box s 80 (psC x (.v (.slice C n c))) :: .row C n c 87 7 cs :: .box b8 51 (fnCells (x.prog.funs.getD fi default)) :: [])) (x := .row A29 R R 4 1 ((sJ R 0).map bv))) ?_
      refine AWL.nil (kpH (tcB 5 rfl rfl hpR (tcB 5 rfl rfl hpK tc0)) ?_)
      exact AWH.to (nd11111111111101000 (A23, A26, A29) trivial) (by kernel_rfl) rfl (Sub.cons rfl rfl (Sub.cons rfl rfl (Sub.cons rfl rfl (Sub.cons rfl rfl (Sub.cons rfl rfl (Sub.cons rfl rfl (Sub.cons rfl rfl (Sub.cons rfl rfl (Sub.cons rfl rfl (Sub.cons rfl rfl (Sub.cons rfl rfl Sub.nil)))))))))))
    ·
      refine AWL.makeRow (n := K) (c := K) rfl rfl (B rfl) rfl el_85 (E rfl rfl) (E rfl rfl) (Nat.le_refl _) (by omega) (by unfold maxLen; omega) (fun A32 => ?_)
      refine AWL.eqLast (zero_b K) ?_
      refine AWL.perm (perm_ins (α := Ent) (F := [.row A23 R R 39 1 ((rJ args R 0).map zw), .row A26 K K 39 1 ((List.replicate K 0#64).map zw)]) (G := (.box s 80 (psC x (.v (.slice C n c))) :: .row C n c 87 7 cs :: .box b8 51 (fnCells (x.prog.funs.getD fi default)) :: [])) (x := .row A32 K K 4 1 ((List.replicate K false).map bv))) ?_
      refine AWL.nil (kpH (tcB 5 rfl rfl hpR (tcB 5 rfl rfl hpK tc0)) ?_)
      exact AWH.to (nd11111111101111000 (A23, A26, A32) trivial) (by kernel_rfl) rfl (Sub.cons rfl rfl (Sub.cons rfl rfl (Sub.cons rfl rfl (Sub.cons rfl rfl (Sub.cons rfl rfl (Sub.cons rfl rfl (Sub.cons rfl rfl (Sub.cons rfl rfl (Sub.cons rfl rfl (Sub.cons rfl rfl (Sub.cons rfl rfl Sub.nil)))))))))))
    ·
      refine AWL.allocOp rfl rfl (B rfl) rfl zc_87 (fun b9 => ?_)
      refine AWL.perm (perm_ins (α := Ent) (F := [.row A23 R R 39 1 ((rJ args R 0).map zw), .row A26 K K 39 1 ((List.replicate K 0#64).map zw)]) (G := (.box s 80 (psC x (.v (.slice C n c))) :: .row C n c 87 7 cs :: .box b8 51 (fnCells (x.prog.funs.getD fi default)) :: [])) (x := .box b9 87 [zi 0, zi 0, nilT, nilT, nilT, nilT, zi 0])) ?_
      refine AWL.nil (kpH (tcB 5 rfl rfl hpR (tcB 5 rfl rfl hpK tc0)) ?_)
      exact AWH.to (nd11111111101101010 (A23, A26, b9) trivial) (by kernel_rfl) rfl (Sub.cons rfl rfl (Sub.cons rfl rfl (Sub.cons rfl rfl (Sub.cons rfl rfl (Sub.cons rfl rfl (Sub.cons rfl rfl (Sub.cons rfl rfl (Sub.cons rfl rfl (Sub.cons rfl rfl (Sub.cons rfl rfl (Sub.cons rfl rfl (Sub.cons rfl rfl Sub.nil))))))))))))
  intro nd11111111101101000
  refine AWH.node (ι := Option Addr × Option Addr) 5 #[true, true, true, true, true, true, false, true, true, true, true, true, false, true, false, false, false] (fun ⟨A23, A29⟩ => [(20, true, zi fi), (23, true, .v (.slice A23 R R)), (25, true, .v (.int .i64 (K : Int))), (29, true, .v (.slice A29 R R)), (31, true, .v (.int .i64 (K : Int))), (33, true, zi d), (0, true, .v (.pointer (some ⟨s, 0, none⟩))), (1, true, .v (.int .i64 (fi : Int))), (2, true, .sl 1 (args.map zw)), (3, true, zi d), (8, true, .v (.pointer (some ⟨b8, 0, none⟩)))]) (fun ⟨A23, A29⟩ => (.row A23 R R 39 1 ((rJ args R 0).map zw) :: .row A29 R R 4 1 ((sJ R 0).map bv) :: .box s 80 (psC x (.v (.slice C n c))) :: .row C n c 87 7 cs :: .box b8 51 (fnCells (x.prog.funs.getD fi default)) :: [])) (fun ⟨A23, A29⟩ => True) ?_ ?_
  ·
    rintro ⟨A23, A29⟩ _
    refine AWH.three (i := 6) (j := 12) (k := 15) (by kernel_rfl) rfl rfl rfl ?_ ?_ ?_ 
    ·
      refine AWL.makeRow (n := K) (c := K) rfl rfl (B rfl) rfl el_84 (E rfl rfl) (E rfl rfl) (Nat.le_refl _) (by omega) (by unfold maxLen; omega) (fun A26 => ?_)
      refine AWL.eqLast (mk_zero K) ?_
      refine AWL.perm (perm_ins (α := Ent) (F := [.row A23 R R 39 1 ((rJ args R 0).map zw)]) (G := (.row A29 R R 4 1 ((sJ R 0).map bv) :: .box s 80 (psC x (.v (.slice C n c))) :: .row C n c 87 7 cs :: .box b8 51 (fnCells (x.prog.funs.getD fi default)) :: [])) (x := .row A26 K K 39 1 ((List.replicate K 0#64).map zw))) ?_
      refine AWL.nil (kpH (tcB 5 rfl rfl hpR (tcB 5 rfl rfl hpK tc0)) ?_)
      exact AWH.to (nd11111111111101000 (A23, A26, A29) trivial) (by kernel_rfl) rfl (Sub.cons rfl rfl (Sub.cons rfl rfl (Sub.cons rfl rfl (Sub.cons rfl rfl (Sub.cons rfl rfl (Sub.cons rfl rfl (Sub.cons rfl rfl (Sub.cons rfl rfl (Sub.cons rfl rfl (Sub.cons rfl rfl (Sub.cons rfl rfl Sub.nil)))))))))))
    ·
      refine AWL.makeRow (n := K) (c := K) rfl rfl (B rfl) rfl el_85 (E rfl rfl) (E rfl rfl) (Nat.le_refl _) (by omega) (by unfold maxLen; omega) (fun A32 => ?_)
      refine AWL.eqLast (zero_b K) ?_
      refine AWL.perm (perm_ins (α := Ent) (F := [.row A23 R R 39 1 ((rJ args R 0).map zw), .row A29 R R 4 1 ((sJ R 0).map bv)]) (G := (.box s 80 (psC x (.v (.slice C n c))) :: .row C n c 87 7 cs :: .box b8 51 (fnCells (x.prog.funs.getD fi default)) :: [])) (x := .row A32 K K 4 1 ((List.replicate K false).map bv))) ?_
      refine AWL.nil (kpH (tcB 5 rfl rfl hpR (tcB 5 rfl rfl hpK tc0)) ?_)
      exact AWH.to (nd11111101111111000 (A23, A29, A32) trivial) (by kernel_rfl) rfl (Sub.cons rfl rfl (Sub.cons rfl rfl (Sub.cons rfl rfl (Sub.cons rfl rfl (Sub.cons rfl rfl (Sub.cons rfl rfl (Sub.cons rfl rfl (Sub.cons rfl rfl (Sub.cons rfl rfl (Sub.cons rfl rfl (Sub.cons rfl rfl Sub.nil)))))))))))
    ·
      refine AWL.allocOp rfl rfl (B rfl) rfl zc_87 (fun b9 => ?_)
      refine AWL.perm (perm_ins (α := Ent) (F := [.row A23 R R 39 1 ((rJ args R 0).map zw), .row A29 R R 4 1 ((sJ R 0).map bv)]) (G := (.box s 80 (psC x (.v (.slice C n c))) :: .row C n c 87 7 cs :: .box b8 51 (fnCells (x.prog.funs.getD fi default)) :: [])) (x := .box b9 87 [zi 0, zi 0, nilT, nilT, nilT, nilT, zi 0])) ?_
      refine AWL.nil (kpH (tcB 5 rfl rfl hpR (tcB 5 rfl rfl hpK tc0)) ?_)
      exact AWH.to (nd11111101111101010 (A23, A29, b9) trivial) (by kernel_rfl) rfl (Sub.cons rfl rfl (Sub.cons rfl rfl (Sub.cons rfl rfl (Sub.cons rfl rfl (Sub.cons rfl rfl (Sub.cons rfl rfl (Sub.cons rfl rfl (Sub.cons rfl rfl (Sub.cons rfl rfl (Sub.cons rfl rfl (Sub.cons rfl rfl (Sub.cons rfl rfl Sub.nil))))))))))))
  intro nd11111101111101000
  refine AWH.node (ι := Option Addr × Option Addr) 5 #[true, true, true, true, true, true, false, true, true, false, true, true, true, true, false, false, false] (fun ⟨A23, A32⟩ => [(20, true, zi fi), (23, true, .v (.slice A23 R R)), (25, true, .v (.int .i64 (K : Int))), (28, true, .v (.int .i64 (R : Int))), (32, true, .v (.slice A32 K K)), (33, true, zi d), (0, true, .v (.pointer (some ⟨s, 0, none⟩))), (1, true, .v (.int .i64 (fi : Int))), (2, true, .sl 1 (args.map zw)), (3, true, zi d), (8, true, .v (.pointer (some ⟨b8, 0, none⟩)))]) (fun ⟨A23, A32⟩ => (.row A23 R R 39 1 ((rJ args R 0).map zw) :: .row A32 K K 4 1 ((List.replicate K false).map bv) :: .box s 80 (psC x (.v (.slice C n c))) :: .row C n c 87 7 cs :: .box b8 51 (fnCells (x.prog.funs.getD fi default)) :: [])) (fun ⟨A23, A32⟩ => True) ?_ ?_
  ·
    rintro ⟨A23, A32⟩ _
    refine AWH.three (i := 6) (j := 9) (k := 15) (by kernel_rfl) rfl rfl rfl ?_ ?_ ?_ 
    ·
      refine AWL.makeRow (n := K) (c := K) rfl rfl (B rfl) rfl el_84 (E rfl rfl) (E rfl rfl) (Nat.le_refl _) (by omega) (by unfold maxLen; omega) (fun A26 => ?_)
      refine AWL.eqLast (mk_zero K) ?_
      refine AWL.perm (perm_ins (α := Ent) (F := [.row A23 R R 39 1 ((rJ args R 0).map zw)]) (G := (.row A32 K K 4 1 ((List.replicate K false).map bv) :: .box s 80 (psC x (.v (.slice C n c))) :: .row C n c 87 7 cs :: .box b8 51 (fnCells (x.prog.funs.getD fi default)) :: [])) (x := .row A26 K K 39 1 ((List.replicate K 0#64).map zw))) ?_
      refine AWL.nil (kpH (tcB 5 rfl rfl hpR (tcB 5 rfl rfl hpK tc0)) ?_)
      exact AWH.to (nd11111111101111000 (A23, A26, A32) trivial) (by kernel_rfl) rfl (Sub.cons rfl rfl (Sub.cons rfl rfl (Sub.cons rfl rfl (Sub.cons rfl rfl (Sub.cons rfl rfl (Sub.cons rfl rfl (Sub.cons rfl rfl (Sub.cons rfl rfl (Sub.cons rfl rfl (Sub.cons rfl rfl (Sub.cons rfl rfl Sub.nil)))))))))))
    ·
      refine AWL.makeRow (n := R) (c := R) rfl rfl (B rfl) rfl el_85 (E rfl rfl) (E rfl rfl) (Nat.le_refl _) (by omega) (by unfold maxLen; omega) (fun A29 => ?_)
      refine AWL.eqLast (zero_s R) ?_
      refine AWL.perm (perm_ins (α := Ent) (F := [.row A23 R R 39 1 ((rJ args R 0).map zw)]) (G := (.row A32 K K 4 1 ((List.replicate K false).map bv) :: .box s 80 (psC x (.v (.slice C n c))) :: .row C n c 87 7 cs :: .box b8 51 (fnCells (x.prog.funs.getD fi default)) :: [])) (x := .row A29 R R 4 1 ((sJ R 0).map bv))) ?_
      refine AWL.nil (kpH (tcB 5 rfl rfl hpR (tcB 5 rfl rfl hpK tc0)) ?_)
      exact AWH.to (nd11111101111111000 (A23, A29, A32) trivial) (by kernel_rfl) rfl (Sub.cons rfl rfl (Sub.cons rfl rfl (Sub.cons rfl rfl (Sub.cons rfl rfl (Sub.cons rfl rfl (Sub.cons rfl rfl (Sub.cons rfl rfl (Sub.cons rfl rfl (Sub.cons rfl rfl (Sub.cons rfl rfl (Sub.cons rfl rfl Sub.nil)))))))))))
    ·
      refine AWL.allocOp rfl rfl (B rfl) rfl zc_87 (fun b9 => ?_)
      refine AWL.perm (perm_ins (α := Ent) (F := [.row A23 R R 39 1 ((rJ args R 0).map zw), .row A32 K K 4 1 ((List.replicate K false).map bv)]) (G := (.box s 80 (psC x (.v (.slice C n c))) :: .row C n c 87 7 cs :: .box b8 51 (fnCells (x.prog.funs.getD fi default)) :: [])) (x := .box b9 87 [zi 0, zi 0, nilT, nilT, nilT, nilT, zi 0])) ?_
      refine AWL.nil (kpH (tcB 5 rfl rfl hpR (tcB 5 rfl rfl hpK tc0)) ?_)
      exact AWH.to (nd11111101101111010 (A23, A32, b9) trivial) (by kernel_rfl) rfl (Sub.cons rfl rfl (Sub.cons rfl rfl (Sub.cons rfl rfl (Sub.cons rfl rfl (Sub.cons rfl rfl (Sub.cons rfl rfl (Sub.cons rfl rfl (Sub.cons rfl rfl (Sub.cons rfl rfl (Sub.cons rfl rfl (Sub.cons rfl rfl (Sub.cons rfl rfl Sub.nil))))))))))))
  intro nd11111101101111000
  refine AWH.node (ι := Option Addr × Nat) 5 #[true, true, true, true, true, true, false, true, true, false, true, true, false, true, false, true, false] (fun ⟨A23, b9⟩ => [(20, true, zi fi), (23, true, .v (.slice A23 R R)), (25, true, .v (.int .i64 (K : Int))), (28, true, .v (.int .i64 (R : Int))), (31, true, .v (.int .i64 (K : Int))), (33, true, zi d), (9, true, .v (.pointer (some ⟨b9, 0, none⟩))), (0, true, .v (.pointer (some ⟨s, 0, none⟩))), (1, true, .v (.int .i64 (fi : Int))), (2, true, .sl 1 (args.map zw)), (3, true, zi d), (8, true, .v (.pointer (some ⟨b8, 0, none⟩)))]) (fun ⟨A23, b9⟩ => (.row A23 R R 39 1 ((rJ args R 0).map zw) :: .box b9 87 [zi 0, zi 0, nilT, nilT, nilT, nilT, zi 0] :: .box s 80 (psC x (.v (.slice C n c))) :: .row C n c 87 7 cs :: .box b8 51 (fnCells (x.prog.funs.getD fi default)) :: [])) (fun ⟨A23, b9⟩ => True) ?_ ?_
  ·
    rintro ⟨A23, b9⟩ _
    refine AWH.three (i := 6) (j := 9) (k := 12) (by kernel_rfl) rfl rfl rfl ?_ ?_ ?_ 
    ·
      refine AWL.makeRow (n := K) (c := K) rfl rfl (B rfl) rfl el_84 (E rfl rfl) (E rfl rfl) (Nat.le_refl _) (by omega) (by unfold maxLen; omega) (fun A26 => ?_)
      refine AWL.eqLast (mk_zero K) ?_
      refine AWL.perm (perm_ins (α := Ent) (F := [.row A23 R R 39 1 ((rJ args R 0).map zw)]) (G := (.box b9 87 [zi 0, zi 0, nilT, nilT, nilT, nilT, zi 0] :: .box s 80 (psC x (.v (.slice C n c))) :: .row C n c 87 7 cs :: .box b8 51 (fnCells (x.prog.funs.getD fi default)) :: [])) (x := .row A26 K K 39 1 ((List.replicate K 0#64).map zw))) ?_
      refine AWL.nil (kpH (tcB 5 rfl rfl hpR (tcB 5 rfl rfl hpK tc0)) ?_)
      exact AWH.to (nd11111111101101010 (A23, A26, b9) trivial) (by kernel_rfl) rfl (Sub.cons rfl rfl (Sub.cons rfl rfl (Sub.cons rfl rfl (Sub.cons rfl rfl (Sub.cons rfl rfl (Sub.cons rfl rfl (Sub.cons rfl rfl (Sub.cons rfl rfl (Sub.cons rfl rfl (Sub.cons rfl rfl (Sub.cons rfl rfl (Sub.cons rfl rfl Sub.nil))))))))))))
    ·
      refine AWL.makeRow (n := R) (c := R) rfl rfl (B rfl) rfl el_85 (E rfl rfl) (E rfl rfl) (Nat.le_refl _) (by omega) (by unfold maxLen; omega) (fun A29 => ?_)
      refine AWL.eqLast (zero_s R) ?_
      refine AWL.perm (perm_ins (α := Ent) (F := [.row A23 R R 39 1 ((rJ args R 0).map zw)]) (G := (.box b9 87 [zi 0, zi 0, nilT, nilT, nilT, nilT, zi 0] :: .box s 80 (psC x (.v (.slice C n c))) :: .row C n c 87 7 cs :: .box b8 51 (fnCells (x.prog.funs.getD fi default)) :: [])) (x := .row A29 R R 4 1 ((sJ R 0).map bv))) ?_
      refine AWL.nil (kpH (tcB 5 rfl rfl hpR (tcB 5 rfl rfl hpK tc0)) ?_)
      exact AWH.to (nd11111101111101010 (A23, A29, b9) trivial) (by kernel_rfl) rfl (Sub.cons rfl rfl (Sub.cons rfl rfl (Sub.cons rfl rfl (Sub.cons rfl rfl (Sub.cons rfl rfl (Sub.cons rfl rfl (Sub.cons rfl rfl (Sub.cons rfl rfl (Sub.cons rfl rfl (Sub.cons rfl rfl (Sub.cons rfl rfl (Sub.cons rfl rfl Sub.nil))))))))))))
    ·
      refine AWL.makeRow (n := K) (c := K) rfl rfl (B rfl) rfl el_85 (E rfl rfl) (E rfl rfl) (Nat.le_refl _) (by omega) (by unfold maxLen; omega) (fun A32 => ?_)
      refine AWL.eqLast (zero_b K) ?_
      refine AWL.perm (perm_ins (α := Ent) (F := [.row A23 R R 39 1 ((rJ args R 0).map zw)]) (G := (.box b9 87 [zi 0, zi 0, nilT, nilT, nilT, nilT, zi 0] :: .box s 80 (psC x (.v (.slice C n c))) :: .row C n c 87 7 cs :: .box b8 51 (fnCells (x.prog.funs.getD fi default)) :: [])) (x := .row A32 K K 4 1 ((List.replicate K false).map bv))) ?_
      refine AWL.nil (kpH (tcB 5 rfl rfl hpR (tcB 5 rfl rfl hpK tc0)) ?_)
      exact AWH.to (nd11111101101111010 (A23, A32, b9) trivial) (by kernel_rfl) rfl (Sub.cons rfl rfl (Sub.cons rfl rfl (Sub.cons rfl rfl (Sub.cons rfl rfl (Sub.cons rfl rfl (Sub.cons rfl rfl (Sub.cons rfl rfl (Sub.cons rfl rfl (Sub.cons rfl rfl (Sub.cons rfl rfl (Sub.cons rfl rfl (Sub.cons rfl rfl Sub.nil))))))))))))
  intro nd11111101101101010
  refine AWH.node (ι := Option Addr × Option Addr) 5 #[true, true, true, false, true, true, true, true, true, true, true, true, false, true, false, false, false] (fun ⟨A26, A29⟩ => [(20, true, zi fi), (22, true, .v (.int .i64 (R : Int))), (26, true, .v (.slice A26 K K)), (29, true, .v (.slice A29 R R)), (31, true, .v (.int .i64 (K : Int))), (33, true, zi d), (0, true, .v (.pointer (some ⟨s, 0, none⟩))), (1, true, .v (.int .i64 (fi : Int))), (2, true, .sl 1 (args.map zw)), (3, true, zi d), (8, true, .v (.pointer (some ⟨b8, 0, none⟩)))]) (fun ⟨A26, A29⟩ => (.row A26 K K 39 1 ((List.replicate K 0#64).map zw) :: .row A29 R R 4 1 ((sJ R 0).map bv) :: .box s 80 (psC x (.v (.slice C n c))) :: .row C n c 87 7 cs :: .box b8 51 (fnCells (x.prog.funs.getD fi default)) :: [])) (fun ⟨A26, A29⟩ => True) ?_ ?_
  ·
    rintro ⟨A26, A29⟩ _
    refine AWH.three (i := 3) (j := 12) (k := 15) (by kernel_rfl) rfl rfl rfl ?_ ?_ ?_ 
    ·
      refine AWL.makeRow (n := R) (c := R) rfl rfl (B rfl) rfl el_84 (E rfl rfl) (E rfl rfl) (Nat.le_refl _) (by omega) (by unfold maxLen; omega) (fun A23 => ?_)
      refine AWL.eqLast (zero_r args R) ?_
      refine AWL.perm (perm_ins (α := Ent) (F := []) (G := (.row A26 K K 39 1 ((List.replicate K 0#64).map zw) :: .row A29 R R 4 1 ((sJ R 0).map bv) :: .box s 80 (psC x (.v (.slice C n c))) :: .row C n c 87 7 cs :: .box b8 51 (fnCells (x.prog.funs.getD fi default)) :: [])) (x := .row A23 R R 39 1 ((rJ args R 0).map zw))) ?_
      refine AWL.nil (kpH (tcB 5 rfl rfl hpR (tcB 5 rfl rfl hpK tc0)) ?_)
      exact AWH.to (nd11111111111101000 (A23, A26, A29) trivial) (by kernel_rfl) rfl (Sub.cons rfl rfl (Sub.cons rfl rfl (Sub.cons rfl rfl (Sub.cons rfl rfl (Sub.cons rfl rfl (Sub.cons rfl rfl (Sub.cons rfl rfl (Sub.cons rfl rfl (Sub.cons rfl rfl (Sub.cons rfl rfl (Sub.cons rfl rfl Sub.nil)))))))))))
    ·
      refine AWL.makeRow (n := K) (c := K) rfl rfl (B rfl) rfl el_85 (E rfl rfl) (E rfl rfl) (Nat.le_refl _) (by omega) (by unfold maxLen; omega) (fun A32 => ?_)
      refine AWL.eqLast (zero_b K) ?_
      refine AWL.perm (perm_ins (α := Ent) (F := [.row A26 K K 39 1 ((List.replicate K 0#64).map zw), .row A29 R R 4 1 ((sJ R 0).map bv)]) (G := (.box s 80 (psC x (.v (.slice C n c))) :: .row C n c 87 7 cs :: .box b8 51 (fnCells (x.prog.funs.getD fi default)) :: [])) (x := .row A32 K K 4 1 ((List.replicate K false).map bv))) ?_
      refine AWL.nil (kpH (tcB 5 rfl rfl hpR (tcB 5 rfl rfl hpK tc0)) ?_)
      exact AWH.to (nd11101111111111000 (A26, A29, A32) trivial) (by kernel_rfl) rfl (Sub.cons rfl rfl (Sub.cons rfl rfl (Sub.cons rfl rfl (Sub.cons rfl rfl (Sub.cons rfl rfl (Sub.cons rfl rfl (Sub.cons rfl rfl (Sub.cons rfl rfl (Sub.cons rfl rfl (Sub.cons rfl rfl (Sub.cons rfl rfl Sub.nil)))))))))))
    ·
      refine AWL.allocOp rfl rfl (B rfl) rfl zc_87 (fun b9 => ?_)
      refine AWL.perm (perm_ins (α := Ent) (F := [.row A26 K K 39 1 ((List.replicate K 0#64).map zw), .row A29 R R 4 1 ((sJ R 0).map bv)]) (G := (.box s 80 (psC x (.v (.slice C n c))) :: .row C n c 87 7 cs :: .box b8 51 (fnCells (x.prog.funs.getD fi default)) :: [])) (x := .box b9 87 [zi 0, zi 0, nilT, nilT, nilT, nilT, zi 0])) ?_
      refine AWL.nil (kpH (tcB 5 rfl rfl hpR (tcB 5 rfl rfl hpK tc0)) ?_)
      exact AWH.to (nd11101111111101010 (A26, A29, b9) trivial) (by kernel_rfl) rfl (Sub.cons rfl rfl (Sub.cons rfl rfl (Sub.cons rfl rfl (Sub.cons rfl rfl (Sub.cons rfl rfl (Sub.cons rfl rfl (Sub.cons rfl rfl (Sub.cons rfl rfl (Sub.cons rfl rfl (Sub.cons rfl rfl (Sub.cons rfl rfl (Sub.cons rfl rfl Sub.nil))))))))))))
  intro nd11101111111101000
  refine AWH.node (ι := Option Addr × Option Addr) 5 #[true, true, true, false, true, true, true, true, true, false, true, true, true, true, false, false, false] (fun ⟨A26, A32⟩ => [(20, true, zi fi), (22, true, .v (.int .i64 (R : Int))), (26, true, .v (.slice A26 K K)), (28, true, .v (.int .i64 (R : Int))), (32, true, .v (.slice A32 K K)), (33, true, zi d), (0, true, .v (.pointer (some ⟨s, 0, none⟩))), (1, true, .v (.int .i64 (fi : Int))), (2, true, .sl 1 (args.map zw)), (3, true, zi d), (8, true, .v (.pointer (some ⟨b8, 0, none⟩)))]) (fun ⟨A26, A32⟩ => (.row A26 K K 39 1 ((List.replicate K 0#64).map zw) :: .row A32 K K 4 1 ((List.replicate K false).map bv) :: .box s 80 (psC x (.v (.slice C n c))) :: .row C n c 87 7 cs :: .box b8 51 (fnCells (x.prog.funs.getD fi default)) :: [])) (fun ⟨A26, A32⟩ => True) ?_ ?_
  ·
    rintro ⟨A26, A32⟩ _
    refine AWH.three (i := 3) (j := 9) (k := 15) (by kernel_rfl) rfl rfl rfl ?_ ?_ ?_ 
    ·
      refine AWL.makeRow (n := R) (c := R) rfl rfl (B rfl) rfl el_84 (E rfl rfl) (E rfl rfl) (Nat.le_refl _) (by omega) (by unfold maxLen; omega) (fun A23 => ?_)
      refine AWL.eqLast (zero_r args R) ?_
      refine AWL.perm (perm_ins (α := Ent) (F := []) (G := (.row A26 K K 39 1 ((List.replicate K 0#64).map zw) :: .row A32 K K 4 1 ((List.replicate K false).map bv) :: .box s 80 (psC x (.v (.slice C n c))) :: .row C n c 87 7 cs :: .box b8 51 (fnCells (x.prog.funs.getD fi default)) :: [])) (x := .row A23 R R 39 1 ((rJ args R 0).map zw))) ?_
      refine AWL.nil (kpH (tcB 5 rfl rfl hpR (tcB 5 rfl rfl hpK tc0)) ?_)
      exact AWH.to (nd11111111101111000 (A23, A26, A32) trivial) (by kernel_rfl) rfl (Sub.cons rfl rfl (Sub.cons rfl rfl (Sub.cons rfl rfl (Sub.cons rfl rfl (Sub.cons rfl rfl (Sub.cons rfl rfl (Sub.cons rfl rfl (Sub.cons rfl rfl (Sub.cons rfl rfl (Sub.cons rfl rfl (Sub.cons rfl rfl Sub.nil)))))))))))
    ·
      refine AWL.makeRow (n := R) (c := R) rfl rfl (B rfl) rfl el_85 (E rfl rfl) (E rfl rfl) (Nat.le_refl _) (by omega) (by unfold maxLen; omega) (fun A29 => ?_)
      refine AWL.eqLast (zero_s R) ?_
      refine AWL.perm (perm_ins (α := Ent) (F := [.row A26 K K 39 1 ((List.replicate K 0#64).map zw)]) (G := (.row A32 K K 4 1 ((List.replicate K false).map bv) :: .box s 80 (psC x (.v (.slice C n c))) :: .row C n c 87 7 cs :: .box b8 51 (fnCells (x.prog.funs.getD fi default)) :: [])) (x := .row A29 R R 4 1 ((sJ R 0).map bv))) ?_
      refine AWL.nil (kpH (tcB 5 rfl rfl hpR (tcB 5 rfl rfl hpK tc0)) ?_)
      exact AWH.to (nd11101111111111000 (A26, A29, A32) trivial) (by kernel_rfl) rfl (Sub.cons rfl rfl (Sub.cons rfl rfl (Sub.cons rfl rfl (Sub.cons rfl rfl (Sub.cons rfl rfl (Sub.cons rfl rfl (Sub.cons rfl rfl (Sub.cons rfl rfl (Sub.cons rfl rfl (Sub.cons rfl rfl (Sub.cons rfl rfl Sub.nil)))))))))))
    ·
      refine AWL.allocOp rfl rfl (B rfl) rfl zc_87 (fun b9 => ?_)
      refine AWL.perm (perm_ins (α := Ent) (F := [.row A26 K K 39 1 ((List.replicate K 0#64).map zw), .row A32 K K 4 1 ((List.replicate K false).map bv)]) (G := (.box s 80 (psC x (.v (.slice C n c))) :: .row C n c 87 7 cs :: .box b8 51 (fnCells (x.prog.funs.getD fi default)) :: [])) (x := .box b9 87 [zi 0, zi 0, nilT, nilT, nilT, nilT, zi 0])) ?_
      refine AWL.nil (kpH (tcB 5 rfl rfl hpR (tcB 5 rfl rfl hpK tc0)) ?_)
      exact AWH.to (nd11101111101111010 (A26, A32, b9) trivial) (by kernel_rfl) rfl (Sub.cons rfl rfl (Sub.cons rfl rfl (Sub.cons rfl rfl (Sub.cons rfl rfl (Sub.cons rfl rfl (Sub.cons rfl rfl (Sub.cons rfl rfl (Sub.cons rfl rfl (Sub.cons rfl rfl (Sub.cons rfl rfl (Sub.cons rfl rfl (Sub.cons rfl rfl Sub.nil))))))))))))
  intro nd11101111101111000
  refine AWH.node (ι := Option Addr × Nat) 5 #[true, true, true, false, true, true, true, true, true, false, true, true, false, true, false, true, false] (fun ⟨A26, b9⟩ => [(20, true, zi fi), (22, true, .v (.int .i64 (R : Int))), (26, true, .v (.slice A26 K K)), (28, true, .v (.int .i64 (R : Int))), (31, true, .v (.int .i64 (K : Int))), (33, true, zi d), (9, true, .v (.pointer (some ⟨b9, 0, none⟩))), (0, true, .v (.pointer (some ⟨s, 0, none⟩))), (1, true, .v (.int .i64 (fi : Int))), (2, true, .sl 1 (args.map zw)), (3, true, zi d), (8, true, .v (.pointer (some ⟨b8, 0, none⟩)))]) (fun ⟨A26, b9⟩ => (.row A26 K K 39 1 ((List.replicate K 0#64).map zw) :: .box b9 87 [zi 0, zi 0, nilT, nilT, nilT, nilT, zi 0] :: .box s 80 (psC x (.v (.slice C n c))) :: .row C n c 87 7 cs :: .box b8 51 (fnCells (x.prog.funs.getD fi default)) :: [])) (fun ⟨A26, b9⟩ => True) ?_ ?_
  ·
    rintro ⟨A26, b9⟩ _
    refine AWH.three (i := 3) (j := 9) (k := 12) (by kernel_rfl) rfl rfl rfl ?_ ?_ ?_ 
    ·
      refine AWL.makeRow (n := R) (c := R) rfl rfl (B rfl) rfl el_84 (E rfl rfl) (E rfl rfl) (Nat.le_refl _) (by omega) (by unfold maxLen; omega) (fun A23 => ?_)
      refine AWL.eqLast (zero_r args R) ?_
      refine AWL.perm (perm_ins (α := Ent) (F := []) (G := (.row A26 K K 39 1 ((List.replicate K 0#64).map zw) :: .box b9 87 [zi 0, zi 0, nilT, nilT, nilT, nilT, zi 0] :: .box s 80 (psC x (.v (.slice C n c))) :: .row C n c 87 7 cs :: .box b8 51 (fnCells (x.prog.funs.getD fi default)) :: [])) (x := .row A23 R R 39 1 ((rJ args R 0).map zw))) ?_
      refine AWL.nil (kpH (tcB 5 rfl rfl hpR (tcB 5 rfl rfl hpK tc0)) ?_)
      exact AWH.to (nd11111111101101010 (A23, A26, b9) trivial) (by kernel_rfl) rfl (Sub.cons rfl rfl (Sub.cons rfl rfl (Sub.cons rfl rfl (Sub.cons rfl rfl (Sub.cons rfl rfl (Sub.cons rfl rfl (Sub.cons rfl rfl (Sub.cons rfl rfl (Sub.cons rfl rfl (Sub.cons rfl rfl (Sub.cons rfl rfl (Sub.cons rfl rfl Sub.nil))))))))))))
    ·
      refine AWL.makeRow (n := R) (c := R) rfl rfl (B rfl) rfl el_85 (E rfl rfl) (E rfl rfl) (Nat.le_refl _) (by omega) (by unfold maxLen; omega) (fun A29 => ?_)
      refine AWL.eqLast (zero_s R) ?_
      refine AWL.perm (perm_ins (α := Ent) (F := [.row A26 K K 39 1 ((List.replicate K 0#64).map zw)]) (G := (.box b9 87 [zi 0, zi 0, nilT, nilT, nilT, nilT, zi 0] :: .box s 80 (psC x (.v (.slice C n c))) :: .row C n c 87 7 cs :: .box b8 51 (fnCells (x.prog.funs.getD fi default)) :: [])) (x := .row A29 R R 4 1 ((sJ R 0).map bv))) ?_
      refine AWL.nil (kpH (tcB 5 rfl rfl hpR (tcB 5 rfl rfl hpK tc0)) ?_)
      exact AWH.to (nd11101111111101010 (A26, A29, b9) trivial) (by kernel_rfl) rfl (Sub.cons rfl rfl (Sub.cons rfl rfl (Sub.cons rfl rfl (Sub.cons rfl rfl (Sub.cons rfl rfl (Sub.cons rfl rfl (Sub.cons rfl rfl (Sub.cons rfl rfl (Sub.cons rfl rfl (Sub.cons rfl rfl (Sub.cons rfl rfl (Sub.cons rfl rfl Sub.nil))))))))))))
    ·
      refine AWL.makeRow (n := K) (c := K) rfl rfl (B rfl) rfl el_85 (E rfl rfl) (E rfl rfl) (Nat.le_refl _) (by omega) (by unfold maxLen; omega) (fun A32 => ?_)
      refine AWL.eqLast (zero_b K) ?_
      refine AWL.perm (perm_ins (α := Ent) (F := [.row A26 K K 39 1 ((List.replicate K 0#64).map zw)]) (G := (.box b9 87 [zi 0, zi 0, nilT, nilT, nilT, nilT, zi 0] :: .box s 80 (psC x (.v (.slice C n c))) :: .row C n c 87 7 cs :: .box b8 51 (fnCells (x.prog.funs.getD fi default)) :: [])) (x := .row A32 K K 4 1 ((List.replicate K false).map bv))) ?_
      refine AWL.nil (kpH (tcB 5 rfl rfl hpR (tcB 5 rfl rfl hpK tc0)) ?_)
      exact AWH.to (nd11101111101111010 (A26, A32, b9) trivial) (by kernel_rfl) rfl (Sub.cons rfl rfl (Sub.cons rfl rfl (Sub.cons rfl rfl (Sub.cons rfl rfl (Sub.cons rfl rfl (Sub.cons rfl rfl (Sub.cons rfl rfl (Sub.cons rfl rfl (Sub.cons rfl rfl (Sub.cons rfl rfl (Sub.cons rfl rfl (Sub.cons rfl rfl Sub.nil))))))))))))
  intro nd11101111101101010
  refine AWH.node (ι := Option Addr × Option Addr) 5 #[true, true, true, false, true, true, false, true, true, true, true, true, true, true, false, false, false] (fun ⟨A29, A32⟩ => [(20, true, zi fi), (22, true, .v (.int .i64 (R : Int))), (25, true, .v (.int .i64 (K : Int))), (29, true, .v (.slice A29 R R)), (32, true, .v (.slice A32 K K)), (33, true, zi d), (0, true, .v (.pointer (some ⟨s, 0, none⟩))), (1, true, .v (.int .i64 (fi : Int))), (2, true, .sl 1 (args.map zw)), (3, true, zi d), (8, true, .v (.pointer (some ⟨b8, 0, none⟩)))]) (fun ⟨A29, A32⟩ => (.row A29 R R 4 1 ((sJ R 0).map bv) :: .row A32 K K 4 1 ((List.replicate K false).map bv) :: .box s 80 (psC x (.v (.slice C n c))) :: .row C n c 87 7 cs :: .box b8 51 (fnCells (x.prog.funs.getD fi default)) :: [])) (fun ⟨A29, A32⟩ => True) ?_ ?_
  ·
    rintro ⟨A29, A32⟩ _
    refine AWH.three (i := 3) (j := 6) (k := 15) (by kernel_rfl) rfl rfl rfl ?_ ?_ ?_ 
    ·
      refine AWL.makeRow (n := R) (c := R) rfl rfl (B rfl) rfl el_84 (E rfl rfl) (E rfl rfl) (Nat.le_refl _) (by omega) (by unfold maxLen; omega) (fun A23 => ?_)
      refine AWL.eqLast (zero_r args R) ?_
      refine AWL.perm (perm_ins (α := Ent) (F := []) (G := (.row A29 R R 4 1 ((sJ R 0).map bv) :: .row A32 K K 4 1 ((List.replicate K false).map bv) :: .box s 80 (psC x (.v (.slice C n c))) :: .row C n c 87 7 cs :: .box b8 51 (fnCells (x.prog.funs.getD fi default)) :: [])) (x := .row A23 R R 39 1 ((rJ args R 0).map zw))) ?_
      refine AWL.nil (kpH (tcB 5 rfl rfl hpR (tcB 5 rfl rfl hpK tc0)) ?_)
      exact AWH.to (nd11111101111111000 (A23, A29, A32) trivial) (by kernel_rfl) rfl (Sub.cons rfl rfl (Sub.cons rfl rfl (Sub.cons rfl rfl (Sub.cons rfl rfl (Sub.cons rfl rfl (Sub.cons rfl rfl (Sub.cons rfl rfl (Sub.cons rfl rfl (Sub.cons rfl rfl (Sub.cons rfl rfl (Sub.cons rfl rfl Sub.nil)))))))))))
    ·
      refine AWL.makeRow (n := K) (c := K) rfl rfl (B rfl) rfl el_84 (E rfl rfl) (E rfl rfl) (Nat.le_refl _) (by omega) (by unfold maxLen; omega) (fun A26 => ?_)
      refine AWL.eqLast (mk_zero K) ?_
      refine AWL.perm (perm_ins (α := Ent) (F := []) (G := (.row A29 R R 4 1 ((sJ R 0).map bv) :: .row A32 K K 4 1 ((List.replicate K false).map bv) :: .box s 80 (psC x (.v (.slice C n c))) :: .row C n c 87 7 cs :: .box b8 51 (fnCells (x.prog.funs.getD fi default)) :: [])) (x := .row A26 K K 39 1 ((List.replicate K 0#64).map zw))) ?_
      refine AWL.nil (kpH (tcB 5 rfl rfl hpR (tcB 5 rfl rfl hpK tc0)) ?_)
      exact AWH.to (nd11101111111111000 (A26, A29, A32) trivial) (by kernel_rfl) rfl (Sub.cons rfl rfl (Sub.cons rfl rfl (Sub.cons rfl rfl (Sub.cons rfl rfl (Sub.cons rfl rfl (Sub.cons rfl rfl (Sub.cons rfl rfl (Sub.cons rfl rfl (Sub.cons rfl rfl (Sub.cons rfl rfl (Sub.cons rfl rfl Sub.nil)))))))))))
    ·
      refine AWL.allocOp rfl rfl (B rfl) rfl zc_87 (fun b9 => ?_)
      refine AWL.perm (perm_ins (α := Ent) (F := [.row A29 R R 4 1 ((sJ R 0).map bv), .row A32 K K 4 1 ((List.replicate K false).map bv)]) (G := (.box s 80 (psC x (.v (.slice C n c))) :: .row C n c 87 7 cs :: .box b8 51 (fnCells (x.prog.funs.getD fi default)) :: [])) (x := .box b9 87 [zi 0, zi 0, nilT, nilT, nilT, nilT, zi 0])) ?_
      refine AWL.nil (kpH (tcB 5 rfl rfl hpR (tcB 5 rfl rfl hpK tc0)) ?_)
      exact AWH.to (nd11101101111111010 (A29, A32, b9) trivial) (by kernel_rfl) rfl (Sub.cons rfl rfl (Sub.cons rfl rfl (Sub.cons rfl rfl (Sub.cons rfl rfl (Sub.cons rfl rfl (Sub.cons rfl rfl (Sub.cons rfl rfl (Sub.cons rfl rfl (Sub.cons rfl rfl (Sub.cons rfl rfl (Sub.cons rfl rfl (Sub.cons rfl rfl Sub.nil))))))))))))
  intro nd11101101111111000
  refine AWH.node (ι := Option Addr × Nat) 5 #[true, true, true, false, true, true, false, true, true, true, true, true, false, true, false, true, false] (fun ⟨A29, b9⟩ => [(20, true, zi fi), (22, true, .v (.int .i64 (R : Int))), (25, true, .v (.int .i64 (K : Int))), (29, true, .v (.slice A29 R R)), (31, true, .v (.int .i64 (K : Int))), (33, true, zi d), (9, true, .v (.pointer (some ⟨b9, 0, none⟩))), (0, true, .v (.pointer (some ⟨s, 0, none⟩))), (1, true, .v (.int .i64 (fi : Int))), (2, true, .sl 1 (args.map zw)), (3, true, zi d), (8, true, .v (.pointer (some ⟨b8, 0, none⟩)))]) (fun ⟨A29, b9⟩ => (.row A29 R R 4 1 ((sJ R 0).map bv) :: .box b9 87 [zi 0, zi 0, nilT, nilT, nilT, nilT, zi 0] :: .box s 80 (psC x (.v (.slice C n c))) :: .row C n c 87 7 cs :: .box b8 51 (fnCells (x.prog.funs.getD fi default)) :: [])) (fun ⟨A29, b9⟩ => True) ?_ ?_
  ·
    rintro ⟨A29, b9⟩ _
    refine AWH.three (i := 3) (j := 6) (k := 12) (by kernel_rfl) rfl rfl rfl ?_ ?_ ?_ 
    ·
      refine AWL.makeRow (n := R) (c := R) rfl rfl (B rfl) rfl el_84 (E rfl rfl) (E rfl rfl) (Nat.le_refl _) (by omega) (by unfold maxLen; omega) (fun A23 => ?_)
      refine AWL.eqLast (zero_r args R) ?_
      refine AWL.perm (perm_ins (α := Ent) (F := []) (G := (.row A29 R R 4 1 ((sJ R 0).map bv) :: .box b9 87 [zi 0, zi 0, nilT, nilT, nilT, nilT, zi 0] :: .box s 80 (psC x (.v (.slice C n c))) :: .row C n c 87 7 cs :: .box b8 51 (fnCells (x.prog.funs.getD fi default)) :: [])) (x := .row A23 R R 39 1 ((rJ args R 0).map zw))) ?_
      refine AWL.nil (kpH (tcB 5 rfl rfl hpR (tcB 5 rfl rfl hpK tc0)) ?_)
      exact AWH.to (nd11111101111101010 (A23, A29, b9) trivial) (by kernel_rfl) rfl (Sub.cons rfl rfl (Sub.cons rfl rfl (Sub.cons rfl rfl (Sub.cons rfl rfl (Sub.cons rfl rfl (Sub.cons rfl rfl (Sub.cons rfl rfl (Sub.cons rfl rfl (Sub.cons rfl rfl (Sub.cons rfl rfl (Sub.cons rfl rfl (Sub.cons rfl rfl Sub.nil))))))))))))
    ·
      refine AWL.makeRow (n := K) (c := K) rfl rfl (B rfl) rfl el_84 (E rfl rfl) (E rfl rfl) (Nat.le_refl _) (by omega) (by unfold maxLen; omega) (fun A26 => ?_)
      refine AWL.eqLast (mk_zero K) ?_
      refine AWL.perm (perm_ins (α := Ent) (F := []) (G := (.row A29 R R 4 1 ((sJ R 0).map bv) :: .box b9 87 [zi 0, zi 0, nilT, nilT, nilT, nilT, zi 0] :: .box s 80 (psC x (.v (.slice C n c))) :: .row C n c 87 7 cs :: .box b8 51 (fnCells (x.prog.funs.getD fi default)) :: [])) (x := .row A26 K K 39 1 ((List.replicate K 0#64).map zw))) ?_
      refine AWL.nil (kpH (tcB 5 rfl rfl hpR (tcB 5 rfl rfl hpK tc0)) ?_)
      exact AWH.to (nd11101111111101010 (A26, A29, b9) trivial) (by kernel_rfl) rfl (Sub.cons rfl rfl (Sub.cons rfl rfl (Sub.cons rfl rfl (Sub.cons rfl rfl (Sub.cons rfl rfl (Sub.cons rfl rfl (Sub.cons rfl rfl (Sub.cons rfl rfl (Sub.cons rfl rfl (Sub.cons rfl rfl (Sub.cons rfl rfl (Sub.cons rfl rfl Sub.nil))))))))))))
    ·
      refine AWL.makeRow (n := K) (c := K) rfl rfl (B rfl) rfl el_85 (E rfl rfl) (E rfl rfl) (Nat.le_refl _) (by omega) (by unfold maxLen; omega) (fun A32 => ?_)
      refine AWL.eqLast (zero_b K) ?_
      refine AWL.perm (perm_ins (α := Ent) (F := [.row A29 R R 4 1 ((sJ R 0).map bv)]) (G := (.box b9 87 [zi 0, zi 0, nilT, nilT, nilT, nilT, zi 0] :: .box s 80 (psC x (.v (.slice C n c))) :: .row C n c 87 7 cs :: .box b8 51 (fnCells (x.prog.funs.getD fi default)) :: [])) (x := .row A32 K K 4 1 ((List.replicate K false).map bv))) ?_
      refine AWL.nil (kpH (tcB 5 rfl rfl hpR (tcB 5 rfl rfl hpK tc0)) ?_)
      exact AWH.to (nd11101101111111010 (A29, A32, b9) trivial) (by kernel_rfl) rfl (Sub.cons rfl rfl (Sub.cons rfl rfl (Sub.cons rfl rfl (Sub.cons rfl rfl (Sub.cons rfl rfl (Sub.cons rfl rfl (Sub.cons rfl rfl (Sub.cons rfl rfl (Sub.cons rfl rfl (Sub.cons rfl rfl (Sub.cons rfl rfl (Sub.cons rfl rfl Sub.nil))))))))))))
  intro nd11101101111101010
  refine AWH.node (ι := Option Addr × Nat) 5 #[true, true, true, false, true, true, false, true, true, false, true, true, true, true, false, true, false] (fun ⟨A32, b9⟩ => [(20, true, zi fi), (22, true, .v (.int .i64 (R : Int))), (25, true, .v (.int .i64 (K : Int))), (28, true, .v (.int .i64 (R : Int))), (32, true, .v (.slice A32 K K)), (33, true, zi d), (9, true, .v (.pointer (some ⟨b9, 0, none⟩))), (0, true, .v (.pointer (some ⟨s, 0, none⟩))), (1, true, .v (.int .i64 (fi : Int))), (2, true, .sl 1 (args.map zw)), (3, true, zi d), (8, true, .v (.pointer (some ⟨b8, 0, none⟩)))]) (fun ⟨A32, b9⟩ => (.row A32 K K 4 1 ((List.replicate K false).map bv) :: .box b9 87 [zi 0, zi 0, nilT, nilT, nilT, nilT, zi 0] :: .box s 80 (psC x (.v (.slice C n c))) :: .row C n c 87 7 cs :: .box b8 51 (fnCells (x.prog.funs.getD fi default)) :: [])) (fun ⟨A32, b9⟩ => True) ?_ ?_
  ·
    rintro ⟨A32, b9⟩ _
    refine AWH.three (i := 3) (j := 6) (k := 9) (by kernel_rfl) rfl rfl rfl ?_ ?_ ?_ 
    ·
      refine AWL.makeRow (n := R) (c := R) rfl rfl (B rfl) rfl el_84 (E rfl rfl) (E rfl rfl) (Nat.le_refl _) (by omega) (by unfold maxLen; omega) (fun A23 => ?_)
      refine AWL.eqLast (zero_r args R) ?_
      refine AWL.perm (perm_ins (α := Ent) (F := []) (G := (.row A32 K K 4 1 ((List.replicate K false).map bv) :: .box b9 87 [zi 0, zi 0, nilT, nilT, nilT, nilT, zi 0] :: .box s 80 (psC x (.v (.slice C n c))) :: .row C n c 87 7 cs :: .box b8 51 (fnCells (x.prog.funs.getD fi default)) :: [])) (x := .row A23 R R 39 1 ((rJ args R 0).map zw))) ?_
      refine AWL.nil (kpH (tcB 5 rfl rfl hpR (tcB 5 rfl rfl hpK tc0)) ?_)
      exact AWH.to (nd11111101101111010 (A23, A32, b9) trivial) (by kernel_rfl) rfl (Sub.cons rfl rfl (Sub.cons rfl rfl (Sub.cons rfl rfl (Sub.cons rfl rfl (Sub.cons rfl rfl (Sub.cons rfl rfl (Sub.cons rfl rfl (Sub.cons rfl rfl (Sub.cons rfl rfl (Sub.cons rfl rfl (Sub.cons rfl rfl (Sub.cons rfl rfl Sub.nil))))))))))))
    ·
      refine AWL.makeRow (n := K) (c := K) rfl rfl (B rfl) rfl el_84 (E rfl rfl) (E rfl rfl) (Nat.le_refl _) (by omega) (by unfold maxLen; omega) (fun A26 => ?_)
      refine AWL.eqLast (mk_zero K) ?_
      refine AWL.perm (perm_ins (α := Ent) (F := []) (G := (.row A32 K K 4 1 ((List.replicate K false).map bv) :: .box b9 87 [zi 0, zi 0, nilT, nilT, nilT, nilT, zi 0] :: .box s 80 (psC x (.v (.slice C n c))) :: .row C n c 87 7 cs :: .box b8 51 (fnCells (x.prog.funs.getD fi default)) :: [])) (x := .row A26 K K 39 1 ((List.replicate K 0#64).map zw))) ?_
      refine AWL.nil (kpH (tcB 5 rfl rfl hpR (tcB 5 rfl rfl hpK tc0)) ?_)
      exact AWH.to (nd11101111101111010 (A26, A32, b9) trivial) (by kernel_rfl) rfl (Sub.cons rfl rfl (Sub.cons rfl rfl (Sub.cons rfl rfl (Sub.cons rfl rfl (Sub.cons rfl rfl (Sub.cons rfl rfl (Sub.cons rfl rfl (Sub.cons rfl rfl (Sub.cons rfl rfl (Sub.cons rfl rfl (Sub.cons rfl rfl (Sub.cons rfl rfl Sub.nil))))))))))))
    ·
      refine AWL.makeRow (n := R) (c := R) rfl rfl (B rfl) rfl el_85 (E rfl rfl) (E rfl rfl) (Nat.le_refl _) (by omega) (by unfold maxLen; omega) (fun A29 => ?_)
      refine AWL.eqLast (zero_s R) ?_
      refine AWL.perm (perm_ins (α := Ent) (F := []) (G := (.row A32 K K 4 1 ((List.replicate K false).map bv) :: .box b9 87 [zi 0, zi 0, nilT, nilT, nilT, nilT, zi 0] :: .box s 80 (psC x (.v (.slice C n c))) :: .row C n c 87 7 cs :: .box b8 51 (fnCells (x.prog.funs.getD fi default)) :: [])) (x := .row A29 R R 4 1 ((sJ R 0).map bv))) ?_
      refine AWL.nil (kpH (tcB 5 rfl rfl hpR (tcB 5 rfl rfl hpK tc0)) ?_)
      exact AWH.to (nd11101101111111010 (A29, A32, b9) trivial) (by kernel_rfl) rfl (Sub.cons rfl rfl (Sub.cons rfl rfl (Sub.cons rfl rfl (Sub.cons rfl rfl (Sub.cons rfl rfl (Sub.cons rfl rfl (Sub.cons rfl rfl (Sub.cons rfl rfl (Sub.cons rfl rfl (Sub.cons rfl rfl (Sub.cons rfl rfl (Sub.cons rfl rfl Sub.nil))))))))))))
  intro nd11101101101111010
  refine AWH.node (ι := Option Addr) 6 #[true, true, true, true, true, true, false, true, true, false, true, true, false, true, false, false, false] (fun A23 => [(20, true, zi fi), (23, true, .v (.slice A23 R R)), (25, true, .v (.int .i64 (K : Int))), (28, true, .v (.int .i64 (R : Int))), (31, true, .v (.int .i64 (K : Int))), (33, true, zi d), (0, true, .v (.pointer (some ⟨s, 0, none⟩))), (1, true, .v (.int .i64 (fi : Int))), (2, true, .sl 1 (args.map zw)), (3, true, zi d), (8, true, .v (.pointer (some ⟨b8, 0, none⟩)))]) (fun A23 => (.row A23 R R 39 1 ((rJ args R 0).map zw) :: .box s 80 (psC x (.v (.slice C n c))) :: .row C n c 87 7 cs :: .box b8 51 (fnCells (x.prog.funs.getD fi default)) :: [])) (fun A23 => True) ?_ ?_
  ·
    rintro A23 _
    refine AWH.four (i0 := 6) (i1 := 9) (i2 := 12) (i3 := 15) (by kernel_rfl) rfl rfl rfl rfl ?_ ?_ ?_ ?_ 
    ·
      refine AWL.makeRow (n := K) (c := K) rfl rfl (B rfl) rfl el_84 (E rfl rfl) (E rfl rfl) (Nat.le_refl _) (by omega) (by unfold maxLen; omega) (fun A26 => ?_)
      refine AWL.eqLast (mk_zero K) ?_
      refine AWL.perm (perm_ins (α := Ent) (F := [.row A23 R R 39 1 ((rJ args R 0).map zw)]) (G := (.box s 80 (psC x (.v (.slice C n c))) :: .row C n c 87 7 cs :: .box b8 51 (fnCells (x.prog.funs.getD fi default)) :: [])) (x := .row A26 K K 39 1 ((List.replicate K 0#64).map zw))) ?_
      refine AWL.nil (kpH (tcB 4 rfl rfl hpR (tcB 4 rfl rfl hpK tc0)) ?_)
      exact AWH.to (nd11111111101101000 (A23, A26) trivial) (by kernel_rfl) rfl (Sub.cons rfl rfl (Sub.cons rfl rfl (Sub.cons rfl rfl (Sub.cons rfl rfl (Sub.cons rfl rfl (Sub.cons rfl rfl (Sub.cons rfl rfl (Sub.cons rfl rfl (Sub.cons rfl rfl (Sub.cons rfl rfl (Sub.cons rfl rfl Sub.nil)))))))))))
    ·
      refine AWL.makeRow (n := R) (c := R) rfl rfl (B rfl) rfl el_85 (E rfl rfl) (E rfl rfl) (Nat.le_refl _) (by omega) (by unfold maxLen; omega) (fun A29 => ?_)
      refine AWL.eqLast (zero_s R) ?_
      refine AWL.perm (perm_ins (α := Ent) (F := [.row A23 R R 39 1 ((rJ args R 0).map zw)]) (G := (.box s 80 (psC x (.v (.slice C n c))) :: .row C n c 87 7 cs :: .box b8 51 (fnCells (x.prog.funs.getD fi default)) :: [])) (x := .row A29 R R 4 1 ((sJ R 0).map bv))) ?_
      refine AWL.nil (kpH (tcB 4 rfl rfl hpR (tcB 4 rfl rfl hpK tc0)) ?_)
      exact AWH.to (nd11111101111101000 (A23, A29) trivial) (by kernel_rfl) rfl (Sub.cons rfl rfl (Sub.cons rfl rfl (Sub.cons rfl rfl (Sub.cons rfl rfl (Sub.cons rfl rfl (Sub.cons rfl rfl (Sub.cons rfl rfl (Sub.cons rfl rfl (Sub.cons rfl rfl (Sub.cons rfl rfl (Sub.cons rfl rfl Sub.nil)))))))))))
    ·
      refine AWL.makeRow (n := K) (c := K) rfl rfl (B rfl) rfl el_85 (E rfl rfl) (E rfl rfl) (Nat.le_refl _) (by omega) (by unfold maxLen; omega) (fun A32 => ?_)
      refine AWL.eqLast (zero_b K) ?_
      refine AWL.perm (perm_ins (α := Ent) (F := [.row A23 R R 39 1 ((rJ args R 0).map zw)]) (G := (.box s 80 (psC x (.v (.slice C n c))) :: .row C n c 87 7 cs :: .box b8 51 (fnCells (x.prog.funs.getD fi default)) :: [])) (x := .row A32 K K 4 1 ((List.replicate K false).map bv))) ?_
      refine AWL.nil (kpH (tcB 4 rfl rfl hpR (tcB 4 rfl rfl hpK tc0)) ?_)
      exact AWH.to (nd11111101101111000 (A23, A32) trivial) (by kernel_rfl) rfl (Sub.cons rfl rfl (Sub.cons rfl rfl (Sub.cons rfl rfl (Sub.cons rfl rfl (Sub.cons rfl rfl (Sub.cons rfl rfl (Sub.cons rfl rfl (Sub.cons rfl rfl (Sub.cons rfl rfl (Sub.cons rfl rfl (Sub.cons rfl rfl Sub.nil)))))))))))
    ·
      refine AWL.allocOp rfl rfl (B rfl) rfl zc_87 (fun b9 => ?_)
      refine AWL.perm (perm_ins (α := Ent) (F := [.row A23 R R 39 1 ((rJ args R 0).map zw)]) (G := (.box s 80 (psC x (.v (.slice C n c))) :: .row C n c 87 7 cs :: .box b8 51 (fnCells (x.prog.funs.getD fi default)) :: [])) (x := .box b9 87 [zi 0, zi 0, nilT, nilT, nilT, nilT, zi 0])) ?_
      refine AWL.nil (kpH (tcB 4 rfl rfl hpR (tcB 4 rfl rfl hpK tc0)) ?_)
      exact AWH.to (nd11111101101101010 (A23, b9) trivial) (by kernel_rfl) rfl (Sub.cons rfl rfl (Sub.cons rfl rfl (Sub.cons rfl rfl (Sub.cons rfl rfl (Sub.cons rfl rfl (Sub.cons rfl rfl (Sub.cons rfl rfl (Sub.cons rfl rfl (Sub.cons rfl rfl (Sub.cons rfl rfl (Sub.cons rfl rfl (Sub.cons rfl rfl Sub.nil))))))))))))
  intro nd11111101101101000
  refine AWH.node (ι := Option Addr) 6 #[true, true, true, false, true, true, true, true, true, false, true, true, false, true, false, false, false] (fun A26 => [(20, true, zi fi), (22, true, .v (.int .i64 (R : Int))), (26, true, .v (.slice A26 K K)), (28, true, .v (.int .i64 (R : Int))), (31, true, .v (.int .i64 (K : Int))), (33, true, zi d), (0, true, .v (.pointer (some ⟨s, 0, none⟩))), (1, true, .v (.int .i64 (fi : Int))), (2, true, .sl 1 (args.map zw)), (3, true, zi d), (8, true, .v (.pointer (some ⟨b8, 0, none⟩)))]) (fun A26 => (.row A26 K K 39 1 ((List.replicate K 0#64).map zw) :: .box s 80 (psC x (.v (.slice C n c))) :: .row C n c 87 7 cs :: .box b8 51 (fnCells (x.prog.funs.getD fi default)) :: [])) (fun A26 => True) ?_ ?_
  ·
    rintro A26 _
    refine AWH.four (i0 := 3) (i1 := 9) (i2 := 12) (i3 := 15) (by kernel_rfl) rfl rfl rfl rfl ?_ ?_ ?_ ?_ 
    ·
      refine AWL.makeRow (n := R) (c := R) rfl rfl (B rfl) rfl el_84 (E rfl rfl) (E rfl rfl) (Nat.le_refl _) (by omega) (by unfold maxLen; omega) (fun A23 => ?_)
      refine AWL.eqLast (zero_r args R) ?_
      refine AWL.perm (perm_ins (α := Ent) (F := []) (G := (.row A26 K K 39 1 ((List.replicate K 0#64).map zw) :: .box s 80 (psC x (.v (.slice C n c))) :: .row C n c 87 7 cs :: .box b8 51 (fnCells (x.prog.funs.getD fi default)) :: [])) (x := .row A23 R R 39 1 ((rJ args R 0).map zw))) ?_
      refine AWL.nil (kpH (tcB 4 rfl rfl hpR (tcB 4 rfl rfl hpK tc0)) ?_)
      exact AWH.to (nd11111111101101000 (A23, A26) trivial) (by kernel_rfl) rfl (Sub.cons rfl rfl (Sub.cons rfl rfl (Sub.cons rfl rfl (Sub.cons rfl rfl (Sub.cons rfl rfl (Sub.cons rfl rfl (Sub.cons rfl rfl (Sub.cons rfl rfl (Sub.cons rfl rfl (Sub.cons rfl rfl (Sub.cons rfl rfl Sub.nil)))))))))))
    ·
      refine AWL.makeRow (n := R) (c := R) rfl rfl (B rfl) rfl el_85 (E rfl rfl) (E rfl rfl) (Nat.le_refl _) (by omega) (by unfold maxLen; omega) (fun A29 => ?_)
      refine AWL.eqLast (zero_s R) ?_
      refine AWL.perm (perm_ins (α := Ent) (F := [.row A26 K K 39 1 ((List.replicate K 0#64).map zw)]) (G := (.box s 80 (psC x (.v (.slice C n c))) :: .row C n c 87 7 cs :: .box b8 51 (fnCells (x.prog.funs.getD fi default)) :: [])) (x := .row A29 R R 4 1 ((sJ R 0).map bv))) ?_
      refine AWL.nil (kpH (tcB 4 rfl rfl hpR (tcB 4 rfl rfl hpK tc0)) ?_)
      exact AWH.to (nd11101111111101000 (A26, A29) trivial) (by kernel_rfl) rfl (Sub.cons rfl rfl (Sub.cons rfl rfl (Sub.cons rfl rfl (Sub.cons rfl rfl (Sub.cons rfl rfl (Sub.cons rfl rfl (Sub.cons rfl rfl (Sub.cons rfl rfl (Sub.cons rfl rfl (Sub.cons rfl rfl (Sub.cons rfl rfl Sub.nil)))))))))))
    ·
      refine AWL.makeRow (n := K) (c := K) rfl rfl (B rfl) rfl el_85 (E rfl rfl) (E rfl rfl) (Nat.le_refl _) (by omega) (by unfold maxLen; omega) (fun A32 => ?_)
      refine AWL.eqLast (zero_b K) ?_
      refine AWL.perm (perm_ins (α := Ent) (F := [.row A26 K K 39 1 ((List.replicate K 0#64).map zw)]) (G := (.box s 80 (psC x (.v (.slice C n c))) :: .row C n c 87 7 cs :: .box b8 51 (fnCells (x.prog.funs.getD fi default)) :: [])) (x := .row A32 K K 4 1 ((List.replicate K false).map bv))) ?_
      refine AWL.nil (kpH (tcB 4 rfl rfl hpR (tcB 4 rfl rfl hpK tc0)) ?_)
      exact AWH.to (nd11101111101111000 (A26, A32) trivial) (by kernel_rfl) rfl (Sub.cons rfl rfl (Sub.cons rfl rfl (Sub.cons rfl rfl (Sub.cons rfl rfl (Sub.cons rfl rfl (Sub.cons rfl rfl (Sub.cons rfl rfl (Sub.cons rfl rfl (Sub.cons rfl rfl (Sub.cons rfl rfl (Sub.cons rfl rfl Sub.nil)))))))))))
    ·
      refine AWL.allocOp rfl rfl (B rfl) rfl zc_87 (fun b9 => ?_)
      refine AWL.perm (perm_ins (α := Ent) (F := [.row A26 K K 39 1 ((List.replicate K 0#64).map zw)]) (G := (.box s 80 (psC x (.v (.slice C n c))) :: .row C n c 87 7 cs :: .box b8 51 (fnCells (x.prog.funs.getD fi default)) :: [])) (x := .box b9 87 [zi 0, zi 0, nilT, nilT, nilT, nilT, zi 0])) ?_
      refine AWL.nil (kpH (tcB 4 rfl rfl hpR (tcB 4 rfl rfl hpK tc0)) ?_)
      exact AWH.to (nd11101111101101010 (A26, b9) trivial) (by kernel_rfl) rfl (Sub.cons rfl rfl (Sub.cons rfl rfl (Sub.cons rfl rfl (Sub.cons rfl rfl (Sub.cons rfl rfl (Sub.cons rfl rfl (Sub.cons rfl rfl (Sub.cons rfl rfl (Sub.cons rfl rfl (Sub.cons rfl rfl (Sub.cons rfl rfl (Sub.cons rfl rfl Sub.nil))))))))))))
  intro nd11101111101101000
  refine AWH.node (ι := Option Addr) 6 #[true, true, true, false, true, true, false, true, true, true, true, true, false, true, false, false, false] (fun A29 => [(20, true, zi fi), (22, true, .v (.int .i64 (R : Int))), (25, true, .v (.int .i64 (K : Int))), (29, true, .v (.slice A29 R R)), (31, true, .v (.int .i64 (K : Int))), (33, true, zi d), (0, true, .v (.pointer (some ⟨s, 0, none⟩))), (1, true, .v (.int .i64 (fi : Int))), (2, true, .sl 1 (args.map zw)), (3, true, zi d), (8, true, .v (.pointer (some ⟨b8, 0, none⟩)))]) (fun A29 => (.row A29 R R 4 1 ((sJ R 0).map bv) :: .box s 80 (psC x (.v (.slice C n c))) :: .row C n c 87 7 cs :: .box b8 51 (fnCells (x.prog.funs.getD fi default)) :: [])) (fun A29 => True) ?_ ?_
  ·
    rintro A29 _
    refine AWH.four (i0 := 3) (i1 := 6) (i2 := 12) (i3 := 15) (by kernel_rfl) rfl rfl rfl rfl ?_ ?_ ?_ ?_ 
    ·
      refine AWL.makeRow (n := R) (c := R) rfl rfl (B rfl) rfl el_84 (E rfl rfl) (E rfl rfl) (Nat.le_refl _) (by omega) (by unfold maxLen; omega) (fun A23 => ?_)
      refine AWL.eqLast (zero_r args R) ?_
      refine AWL.perm (perm_ins (α := Ent) (F := []) (G := (.row A29 R R 4 1 ((sJ R 0).map bv) :: .box s 80 (psC x (.v (.slice C n c))) :: .row C n c 87 7 cs :: .box b8 51 (fnCells (x.prog.funs.getD fi default)) :: [])) (x := .row A23 R R 39 1 ((rJ args R 0).map zw))) ?_
      refine AWL.nil (kpH (tcB 4 rfl rfl hpR (tcB 4 rfl rfl hpK tc0)) ?_)
      exact AWH.to (nd11111101111101000 (A23, A29) trivial) (by kernel_rfl) rfl (Sub.cons rfl rfl (Sub.cons rfl rfl (Sub.cons rfl rfl (Sub.cons rfl rfl (Sub.cons rfl rfl (Sub.cons rfl rfl (Sub.cons rfl rfl (Sub.cons rfl rfl (Sub.cons rfl rfl (Sub.cons rfl rfl (Sub.cons rfl rfl Sub.nil)))))))))))
    ·
      refine AWL.makeRow (n := K) (c := K) rfl rfl (B rfl) rfl el_84 (E rfl rfl) (E rfl rfl) (Nat.le_refl _) (by omega) (by unfold maxLen; omega) (fun A26 => ?_)
      refine AWL.eqLast (mk_zero K) ?_
      refine AWL.perm (perm_ins (α := Ent) (F := []) (G := (.row A29 R R 4 1 ((sJ R 0).map bv) :: .box s 80 (psC x (.v (.slice C n c))) :: .row C n c 87 7 cs :: .box b8 51 (fnCells (x.prog.funs.getD fi default)) :: [])) (x := .row A26 K K 39 1 ((List.replicate K 0#64).map zw))) ?_
      refine AWL.nil (kpH (tcB 4 rfl rfl hpR (tcB 4 rfl rfl hpK tc0)) ?_)
      exact AWH.to (nd11101111111101000 (A26, A29) trivial) (by kernel_rfl) rfl (Sub.cons rfl rfl (Sub.cons rfl rfl (Sub.cons rfl rfl (Sub.cons rfl rfl (Sub.cons rfl rfl (Sub.cons rfl rfl (Sub.cons rfl rfl (Sub.cons rfl rfl (Sub.cons rfl rfl (Sub.cons rfl rfl (Sub.cons rfl rfl Sub.nil)))))))))))
    ·
      refine AWL.makeRow (n := K) (c := K) rfl rfl (B rfl) rfl el_85 (E rfl rfl) (E rfl rfl) (Nat.le_refl _) (by omega) (by unfold maxLen; omega) (fun A32 => ?_)
      refine AWL.eqLast (zero_b K) ?_
      refine AWL.perm (perm_ins (α := Ent) (F := [.row A29 R R 4 1 ((sJ R 0).map bv)]) (G := (.box s 80 (psC x (.v (.slice C n c))) :: .row C n c 87 7 cs :: .box b8 51 (fnCells (x.prog.funs.getD fi default)) :: [])) (x := .row A32 K K 4 1 ((List.replicate K false).map bv))) ?_
      refine AWL.nil (kpH (tcB 4 rfl rfl hpR (tcB 4 rfl rfl hpK tc0)) ?_)
      exact AWH.to (nd11101101111111000 (A29, A32) trivial) (by kernel_rfl) rfl (Sub.cons rfl rfl (Sub.cons rfl rfl (Sub.cons rfl rfl (Sub.cons rfl rfl (Sub.cons rfl rfl (Sub.cons rfl rfl (Sub.cons rfl rfl (Sub.cons rfl rfl (Sub.cons rfl rfl (Sub.cons rfl rfl (Sub.cons rfl rfl Sub.nil)))))))))))
    ·
      refine AWL.allocOp rfl rfl (B rfl) rfl zc_87 (fun b9 => ?_)
      refine AWL.perm (perm_ins (α := Ent) (F := [.row A29 R R 4 1 ((sJ R 0).map bv)]) (G := (.box s 80 (psC x (.v (.slice C n c))) :: .row C n c 87 7 cs :: .box b8 51 (fnCells (x.prog.funs.getD fi default)) :: [])) (x := .box b9 87 [zi 0, zi 0, nilT, nilT, nilT, nilT, zi 0])) ?_
      refine AWL.nil (kpH (tcB 4 rfl rfl hpR (tcB 4 rfl rfl hpK tc0)) ?_)
      exact AWH.to (nd11101101111101010 (A29, b9) trivial) (by kernel_rfl) rfl (Sub.cons rfl rfl (Sub.cons rfl rfl (Sub.cons rfl rfl (Sub.cons rfl rfl (Sub.cons rfl rfl (Sub.cons rfl rfl (Sub.cons rfl rfl (Sub.cons rfl rfl (Sub.cons rfl rfl (Sub.cons rfl rfl (Sub.cons rfl rfl (Sub.cons rfl rfl Sub.nil))))))))))))
  intro nd11101101111101000
  refine AWH.node (ι := Option Addr) 6 #[true, true, true, false, true, true, false, true, true, false, true, true, true, true, false, false, false] (fun A32 => [(20, true, zi fi), (22, true, .v (.int .i64 (R : Int))), (25, true, .v (.int .i64 (K : Int))), (28, true, .v (.int .i64 (R : Int))), (32, true, .v (.slice A32 K K)), (33, true, zi d), (0, true, .v (.pointer (some ⟨s, 0, none⟩))), (1, true, .v (.int .i64 (fi : Int))), (2, true, .sl 1 (args.map zw)), (3, true, zi d), (8, true, .v (.pointer (some ⟨b8, 0, none⟩)))]) (fun A32 => (.row A32 K K 4 1 ((List.replicate K false).map bv) :: .box s 80 (psC x (.v (.slice C n c))) :: .row C n c 87 7 cs :: .box b8 51 (fnCells (x.prog.funs.getD fi default)) :: [])) (fun A32 => True) ?_ ?_
  ·
    rintro A32 _
    refine AWH.four (i0 := 3) (i1 := 6) (i2 := 9) (i3 := 15) (by kernel_rfl) rfl rfl rfl rfl ?_ ?_ ?_ ?_ 
    ·
      refine AWL.makeRow (n := R) (c := R) rfl rfl (B rfl) rfl el_84 (E rfl rfl) (E rfl rfl) (Nat.le_refl _) (by omega) (by unfold maxLen; omega) (fun A23 => ?_)
      refine AWL.eqLast (zero_r args R) ?_
      refine AWL.perm (perm_ins (α := Ent) (F := []) (G := (.row A32 K K 4 1 ((List.replicate K false).map bv) :: .box s 80 (psC x (.v (.slice C n c))) :: .row C n c 87 7 cs :: .box b8 51 (fnCells (x.prog.funs.getD fi default)) :: [])) (x := .row A23 R R 39 1 ((rJ args R 0).map zw))) ?_
      refine AWL.nil (kpH (tcB 4 rfl rfl hpR (tcB 4 rfl rfl hpK tc0)) ?_)
      exact AWH.to (nd11111101101111000 (A23, A32) trivial) (by kernel_rfl) rfl (Sub.cons rfl rfl (Sub.cons rfl rfl (Sub.cons rfl rfl (Sub.cons rfl rfl (Sub.cons rfl rfl (Sub.cons rfl rfl (Sub.cons rfl rfl (Sub.cons rfl rfl (Sub.cons rfl rfl (Sub.cons rfl rfl (Sub.cons rfl rfl Sub.nil)))))))))))
    ·
      refine AWL.makeRow (n := K) (c := K) rfl rfl (B rfl) rfl el_84 (E rfl rfl) (E rfl rfl) (Nat.le_refl _) (by omega) (by unfold maxLen; omega) (fun A26 => ?_)
      refine AWL.eqLast (mk_zero K) ?_
      refine AWL.perm (perm_ins (α := Ent) (F := []) (G := (.row A32 K K 4 1 ((List.replicate K false).map bv) :: .box s 80 (psC x (.v (.slice C n c))) :: .row C n c 87 7 cs :: .box b8 51 (fnCells (x.prog.funs.getD fi default)) :: [])) (x := .row A26 K K 39 1 ((List.replicate K 0#64).map zw))) ?_
      refine AWL.nil (kpH (tcB 4 rfl rfl hpR (tcB 4 rfl rfl hpK tc0)) ?_)
      exact AWH.to (nd11101111101111000 (A26, A32) trivial) (by kernel_rfl) rfl (Sub.cons rfl rfl (Sub.cons rfl rfl (Sub.cons rfl rfl (Sub.cons rfl rfl (Sub.cons rfl rfl (Sub.cons rfl rfl (Sub.cons rfl rfl (Sub.cons rfl rfl (Sub.cons rfl rfl (Sub.cons rfl rfl (Sub.cons rfl rfl Sub.nil)))))))))))
    ·
      refine AWL.makeRow (n := R) (c := R) rfl rfl (B rfl) rfl el_85 (E rfl rfl) (E rfl rfl) (Nat.le_refl _) (by omega) (by unfold maxLen; omega) (fun A29 => ?_)
      refine AWL.eqLast (zero_s R) ?_
      refine AWL.perm (perm_ins (α := Ent) (F := []) (G := (.row A32 K K 4 1 ((List.replicate K false).map bv) :: .box s 80 (psC x (.v (.slice C n c))) :: .row C n c 87 7 cs :: .box b8 51 (fnCells (x.prog.funs.getD fi default)) :: [])) (x := .row A29 R R 4 1 ((sJ R 0).map bv))) ?_
      refine AWL.nil (kpH (tcB 4 rfl rfl hpR (tcB 4 rfl rfl hpK tc0)) ?_)
      exact AWH.to (nd11101101111111000 (A29, A32) trivial) (by kernel_rfl) rfl (Sub.cons rfl rfl (Sub.cons rfl rfl (Sub.cons rfl rfl (Sub.cons rfl rfl (Sub.cons rfl rfl (Sub.cons rfl rfl (Sub.cons rfl rfl (Sub.cons rfl rfl (Sub.cons rfl rfl (Sub.cons rfl rfl (Sub.cons rfl rfl Sub.nil)))))))))))
    ·
      refine AWL.allocOp rfl rfl (B rfl) rfl zc_87 (fun b9 => ?_)
      refine AWL.perm (perm_ins (α := Ent) (F := [.row A32 K K 4 1 ((List.replicate K false).map bv)]) (G := (.box s 80 (psC x (.v (.slice C n c))) :: .row C n c 87 7 cs :: .box b8 51 (fnCells (x.prog.funs.getD fi default)) :: [])) (x := .box b9 87 [zi 0, zi 0, nilT, nilT, nilT, nilT, zi 0])) ?_
      refine AWL.nil (kpH (tcB 4 rfl rfl hpR (tcB 4 rfl rfl hpK tc0)) ?_)
      exact AWH.to (nd11101101101111010 (A32, b9) trivial) (by kernel_rfl) rfl (Sub.cons rfl rfl (Sub.cons rfl rfl (Sub.cons rfl rfl (Sub.cons rfl rfl (Sub.cons rfl rfl (Sub.cons rfl rfl (Sub.cons rfl rfl (Sub.cons rfl rfl (Sub.cons rfl rfl (Sub.cons rfl rfl (Sub.cons rfl rfl (Sub.cons rfl rfl Sub.nil))))))))))))
  intro nd11101101101111000
  refine AWH.node (ι := Nat) 6 #[true, true, true, false, true, true, false, true, true, false, true, true, false, true, false, true, false] (fun b9 => [(20, true, zi fi), (22, true, .v (.int .i64 (R : Int))), (25, true, .v (.int .i64 (K : Int))), (28, true, .v (.int .i64 (R : Int))), (31, true, .v (.int .i64 (K : Int))), (33, true, zi d), (9, true, .v (.pointer (some ⟨b9, 0, none⟩))), (0, true, .v (.pointer (some ⟨s, 0, none⟩))), (1, true, .v (.int .i64 (fi : Int))), (2, true, .sl 1 (args.map zw)), (3, true, zi d), (8, true, .v (.pointer (some ⟨b8, 0, none⟩)))]) (fun b9 => (.box b9 87 [zi 0, zi 0, nilT, nilT, nilT, nilT, zi 0] :: .box s 80 (psC x (.v (.slice C n c))) :: .row C n c 87 7 cs :: .box b8 51 (fnCells (x.prog.funs.getD fi default)) :: [])) (fun b9 => True) ?_ ?_
  ·
    rintro b9 _
    refine AWH.four (i0 := 3) (i1 := 6) (i2 := 9) (i3 := 12) (by kernel_rfl) rfl rfl rfl rfl ?_ ?_ ?_ ?_ 
    ·
      refine AWL.makeRow (n := R) (c := R) rfl rfl (B rfl) rfl el_84 (E rfl rfl) (E rfl rfl) (Nat.le_refl _) (by omega) (by unfold maxLen; omega) (fun A23 => ?_)
      refine AWL.eqLast (zero_r args R) ?_
      refine AWL.perm (perm_ins (α := Ent) (F := []) (G := (.box b9 87 [zi 0, zi 0, nilT, nilT, nilT, nilT, zi 0] :: .box s 80 (psC x (.v (.slice C n c))) :: .row C n c 87 7 cs :: .box b8 51 (fnCells (x.prog.funs.getD fi default)) :: [])) (x := .row A23 R R 39 1 ((rJ args R 0).map zw))) ?_
      refine AWL.nil (kpH (tcB 4 rfl rfl hpR (tcB 4 rfl rfl hpK tc0)) ?_)
      exact AWH.to (nd11111101101101010 (A23, b9) trivial) (by kernel_rfl) rfl (Sub.cons rfl rfl (Sub.cons rfl rfl (Sub.cons rfl rfl (Sub.cons rfl rfl (Sub.cons rfl rfl (Sub.cons rfl rfl (Sub.cons rfl rfl (Sub.cons rfl rfl (Sub.cons rfl rfl (Sub.cons rfl rfl (Sub.cons rfl rfl (Sub.cons rfl rfl Sub.nil))))))))))))
    ·
      refine AWL.makeRow (n := K) (c := K) rfl rfl (B rfl) rfl el_84 (E rfl rfl) (E rfl rfl) (Nat.le_refl _) (by omega) (by unfold maxLen; omega) (fun A26 => ?_)
      refine AWL.eqLast (mk_zero K) ?_
      refine AWL.perm (perm_ins (α := Ent) (F := []) (G := (.box b9 87 [zi 0, zi 0, nilT, nilT, nilT, nilT, zi 0] :: .box s 80 (psC x (.v (.slice C n c))) :: .row C n c 87 7 cs :: .box b8 51 (fnCells (x.prog.funs.getD fi default)) :: [])) (x := .row A26 K K 39 1 ((List.replicate K 0#64).map zw))) ?_
      refine AWL.nil (kpH (tcB 4 rfl rfl hpR (tcB 4 rfl rfl hpK tc0)) ?_)
      exact AWH.to (nd11101111101101010 (A26, b9) trivial) (by kernel_rfl) rfl (Sub.cons rfl rfl (Sub.cons rfl rfl (Sub.cons rfl rfl (Sub.cons rfl rfl (Sub.cons rfl rfl (Sub.cons rfl rfl (Sub.cons rfl rfl (Sub.cons rfl rfl (Sub.cons rfl rfl (Sub.cons rfl rfl (Sub.cons rfl rfl (Sub.cons rfl rfl Sub.nil))))))))))))
    ·
      refine AWL.makeRow (n := R) (c := R) rfl rfl (B rfl) rfl el_85 (E rfl rfl) (E rfl rfl) (Nat.le_refl _) (by omega) (by unfold maxLen; omega) (fun A29 => ?_)
      refine AWL.eqLast (zero_s R) ?_
      refine AWL.perm (perm_ins (α := Ent) (F := []) (G := (.box b9 87 [zi 0, zi 0, nilT, nilT, nilT, nilT, zi 0] :: .box s 80 (psC x (.v (.slice C n c))) :: .row C n c 87 7 cs :: .box b8 51 (fnCells (x.prog.funs.getD fi default)) :: [])) (x := .row A29 R R 4 1 ((sJ R 0).map bv))) ?_
      refine AWL.nil (kpH (tcB 4 rfl rfl hpR (tcB 4 rfl rfl hpK tc0)) ?_)
      exact AWH.to (nd11101101111101010 (A29, b9) trivial) (by kernel_rfl) rfl (Sub.cons rfl rfl (Sub.cons rfl rfl (Sub.cons rfl rfl (Sub.cons rfl rfl (Sub.cons rfl rfl (Sub.cons rfl rfl (Sub.cons rfl rfl (Sub.cons rfl rfl (Sub.cons rfl rfl (Sub.cons rfl rfl (Sub.cons rfl rfl (Sub.cons rfl rfl Sub.nil))))))))))))
    ·
      refine AWL.makeRow (n := K) (c := K) rfl rfl (B rfl) rfl el_85 (E rfl rfl) (E rfl rfl) (Nat.le_refl _) (by omega) (by unfold maxLen; omega) (fun A32 => ?_)
      refine AWL.eqLast (zero_b K) ?_
      refine AWL.perm (perm_ins (α := Ent) (F := []) (G := (.box b9 87 [zi 0, zi 0, nilT, nilT, nilT, nilT, zi 0] :: .box s 80 (psC x (.v (.slice C n c))) :: .row C n c 87 7 cs :: .box b8 51 (fnCells (x.prog.funs.getD fi default)) :: [])) (x := .row A32 K K 4 1 ((List.replicate K false).map bv))) ?_
      refine AWL.nil (kpH (tcB 4 rfl rfl hpR (tcB 4 rfl rfl hpK tc0)) ?_)
      exact AWH.to (nd11101101101111010 (A32, b9) trivial) (by kernel_rfl) rfl (Sub.cons rfl rfl (Sub.cons rfl rfl (Sub.cons rfl rfl (Sub.cons rfl rfl (Sub.cons rfl rfl (Sub.cons rfl rfl (Sub.cons rfl rfl (Sub.cons rfl rfl (Sub.cons rfl rfl (Sub.cons rfl rfl (Sub.cons rfl rfl (Sub.cons rfl rfl Sub.nil))))))))))))
  intro nd11101101101101010
  refine AWH.five (i0 := 3) (i1 := 6) (i2 := 9) (i3 := 12) (i4 := 15) (by kernel_rfl) rfl rfl rfl rfl rfl ?_ ?_ ?_ ?_ ?_ 
  ·
    refine AWL.makeRow (n := R) (c := R) rfl rfl (B rfl) rfl el_84 (E rfl rfl) (E rfl rfl) (Nat.le_refl _) (by omega) (by unfold maxLen; omega) (fun A23 => ?_)
    refine AWL.eqLast (zero_r args R) ?_
    refine AWL.perm (perm_ins (α := Ent) (F := []) (G := (.box s 80 (psC x (.v (.slice C n c))) :: .row C n c 87 7 cs :: .box b8 51 (fnCells (x.prog.funs.getD fi default)) :: [])) (x := .row A23 R R 39 1 ((rJ args R 0).map zw))) ?_
    refine AWL.nil (kpH (tcB 3 rfl rfl hpR (tcB 3 rfl rfl hpK tc0)) ?_)
    exact AWH.to (nd11111101101101000 A23 trivial) (by kernel_rfl) rfl (Sub.cons rfl rfl (Sub.cons rfl rfl (Sub.cons rfl rfl (Sub.cons rfl rfl (Sub.cons rfl rfl (Sub.cons rfl rfl (Sub.cons rfl rfl (Sub.cons rfl rfl (Sub.cons rfl rfl (Sub.cons rfl rfl (Sub.cons rfl rfl Sub.nil)))))))))))
  ·
    refine AWL.makeRow (n := K) (c := K) rfl rfl (B rfl) rfl el_84 (E rfl rfl) (E rfl rfl) (Nat.le_refl _) (by omega) (by unfold maxLen; omega) (fun A26 => ?_)
    refine AWL.eqLast (mk_zero K) ?_
    refine AWL.perm (perm_ins (α := Ent) (F := []) (G := (.box s 80 (psC x (.v (.slice C n c))) :: .row C n c 87 7 cs :: .box b8 51 (fnCells (x.prog.funs.getD fi default)) :: [])) (x := .row A26 K K 39 1 ((List.replicate K 0#64).map zw))) ?_
    refine AWL.nil (kpH (tcB 3 rfl rfl hpR (tcB 3 rfl rfl hpK tc0)) ?_)
    exact AWH.to (nd11101111101101000 A26 trivial) (by kernel_rfl) rfl (Sub.cons rfl rfl (Sub.cons rfl rfl (Sub.cons rfl rfl (Sub.cons rfl rfl (Sub.cons rfl rfl (Sub.cons rfl rfl (Sub.cons rfl rfl (Sub.cons rfl rfl (Sub.cons rfl rfl (Sub.cons rfl rfl (Sub.cons rfl rfl Sub.nil)))))))))))
  ·
    refine AWL.makeRow (n := R) (c := R) rfl rfl (B rfl) rfl el_85 (E rfl rfl) (E rfl rfl) (Nat.le_refl _) (by omega) (by unfold maxLen; omega) (fun A29 => ?_)
    refine AWL.eqLast (zero_s R) ?_
    refine AWL.perm (perm_ins (α := Ent) (F := []) (G := (.box s 80 (psC x (.v (.slice C n c))) :: .row C n c 87 7 cs :: .box b8 51 (fnCells (x.prog.funs.getD fi default)) :: [])) (x := .row A29 R R 4 1 ((sJ R 0).map bv))) ?_
    refine AWL.nil (kpH (tcB 3 rfl rfl hpR (tcB 3 rfl rfl hpK tc0)) ?_)
    exact AWH.to (nd11101101111101000 A29 trivial) (by kernel_rfl) rfl (Sub.cons rfl rfl (Sub.cons rfl rfl (Sub.cons rfl rfl (Sub.cons rfl rfl (Sub.cons rfl rfl (Sub.cons rfl rfl (Sub.cons rfl rfl (Sub.cons rfl rfl (Sub.cons rfl rfl (Sub.cons rfl rfl (Sub.cons rfl rfl Sub.nil)))))))))))
  ·
    refine AWL.makeRow (n := K) (c := K) rfl rfl (B rfl) rfl el_85 (E rfl rfl) (E rfl rfl) (Nat.le_refl _) (by omega) (by unfold maxLen; omega) (fun A32 => ?_)
    refine AWL.eqLast (zero_b K) ?_
    refine AWL.perm (perm_ins (α := Ent) (F := []) (G := (.box s 80 (psC x (.v (.slice C n c))) :: .row C n c 87 7 cs :: .box b8 51 (fnCells (x.prog.funs.getD fi default)) :: [])) (x := .row A32 K K 4 1 ((List.replicate K false).map bv))) ?_
    refine AWL.nil (kpH (tcB 3 rfl rfl hpR (tcB 3 rfl rfl hpK tc0)) ?_)
    exact AWH.to (nd11101101101111000 A32 trivial) (by kernel_rfl) rfl (Sub.cons rfl rfl (Sub.cons rfl rfl (Sub.cons rfl rfl (Sub.cons rfl rfl (Sub.cons rfl rfl (Sub.cons rfl rfl (Sub.cons rfl rfl (Sub.cons rfl rfl (Sub.cons rfl rfl (Sub.cons rfl rfl (Sub.cons rfl rfl Sub.nil)))))))))))
  ·
    refine AWL.allocOp rfl rfl (B rfl) rfl zc_87 (fun b9 => ?_)
    refine AWL.perm (perm_ins (α := Ent) (F := []) (G := (.box s 80 (psC x (.v (.slice C n c))) :: .row C n c 87 7 cs :: .box b8 51 (fnCells (x.prog.funs.getD fi default)) :: [])) (x := .box b9 87 [zi 0, zi 0, nilT, nilT, nilT, nilT, zi 0])) ?_
    refine AWL.nil (kpH (tcB 3 rfl rfl hpR (tcB 3 rfl rfl hpK tc0)) ?_)
    exact AWH.to (nd11101101101101010 b9 trivial) (by kernel_rfl) rfl (Sub.cons rfl rfl (Sub.cons rfl rfl (Sub.cons rfl rfl (Sub.cons rfl rfl (Sub.cons rfl rfl (Sub.cons rfl rfl (Sub.cons rfl rfl (Sub.cons rfl rfl (Sub.cons rfl rfl (Sub.cons rfl rfl (Sub.cons rfl rfl (Sub.cons rfl rfl Sub.nil))))))))))))

theorem open31 (s : Nat) (x : PS) (fi : Nat) (args : List Wd64) (d : Int) (C : Option Addr) (n c : Nat) (cs : List T) (hf : fi < x.prog.funs.length) (hpf : x.prog.funs.length ≤ 1048576) (h0 : 0 ≤ (x.prog.funs.getD fi default).regs) (h1 : (x.prog.funs.getD fi default).regs ≤ 65536) (k0 : 0 ≤ (x.prog.funs.getD fi default).slots) (k1 : (x.prog.funs.getD fi default).slots ≤ 1048576) (ha : (args.length : Int) ≤ (x.prog.funs.getD fi default).regs) (hn : n ≤ 1048576) :
    ACalls Try.prog 31 [.v (.pointer (some ⟨s, 0, none⟩)), .v (.int .i64 (fi : Int)), .sl 1 (args.map zw), zi d] [.box s 80 (psC x (.v (.slice C n c))), .row C n c 87 7 cs] (fun t S => t = .tup [] ∧ ∃ g c' a, S = [.box s 80 (psC x (.v (.slice (some ⟨g, 0, none⟩) (n + 1) c'))), .row (some ⟨g, 0, none⟩) (n + 1) c' 87 7 (cs ++ frC (openFr (x.prog.funs.getD fi default) fi args d) a)] ++ frR (openFr (x.prog.funs.getD fi default) fi args d) a) :=
  open31_ s x fi args d C n c cs _ _ hf hpf (by omega) (by omega) (by omega) (by omega) (by omega) hn
end Go.Proofs.Ytlfklgganokgdaa

namespace Go.Proofs.Ytlfklgganokgdaa
open Go Go.RowKit
set_option linter.unusedSimpArgs false
set_option linter.unusedVariables false
def wI (z : Int) : Wd64 := BitVec.ofInt 64 z
def sI (a : Wd64) : Int := IntKind.i64.wrap (a.toNat : Int)
theorem wI_nat (z : Int) : ((wI z).toNat : Int) = IntKind.u64.wrap z := by
  rw [wrap_u64, wI, BitVec.toNat_ofInt]
  omega
section
variable {cx : Cx} {env : Env} {S : St} {o : Oper} {g : Bool} {x y : Operand}
theorem Yv.convW {src dst : TypeId} {k : IntKind} {p : Int} {d : TypeDesc} (ho : o.op = .convert src dst x) (hs : cx.P.underlying src = some d) (hd : kindOf cx.P dst = some .u64) (hx : Ev env g x (.v (.int k p))) : Yv cx o env S g (zw (wI p)) := by
  have h := Yv.conv (cx := cx) (S := S) ho hs hd hx
  rw [← wI_nat] at h; exact h
theorem Yv.quoW {ty yt : TypeId} {a b : Wd64} (ho : o.op = .binOp .quo ty x y yt) (hx : Ev env g x (zw a)) (hy : Ev env g y (zw b)) (hb : b ≠ 0#64) : Yv cx o env S g (zw (a / b)) := by
  have hb' : (b.toNat : Int) ≠ 0 := fun h => hb (BitVec.eq_of_toNat_eq (by simpa using h))
  have h := Yv.quo (cx := cx) (S := S) ho hx hy (fun _ => hb')
  rw [show (a.toNat : Int).tdiv (b.toNat : Int) = ((a / b).toNat : Int) by rw [BitVec.toNat_udiv]; exact Int.natCast_ediv _ _ ▸ (Int.tdiv_eq_ediv_of_nonneg (Int.natCast_nonneg _)), wrap_nat] at h
  exact h
theorem Yv.remW {ty yt : TypeId} {a b : Wd64} (ho : o.op = .binOp .rem ty x y yt) (hx : Ev env g x (zw a)) (hy : Ev env g y (zw b)) (hb : b ≠ 0#64) : Yv cx o env S g (zw (a % b)) := by
  have hb' : (b.toNat : Int) ≠ 0 := fun h => hb (BitVec.eq_of_toNat_eq (by simpa using h))
  have h := Yv.rem (cx := cx) (S := S) ho hx hy (fun _ => hb')
  rw [show (a.toNat : Int).tmod (b.toNat : Int) = ((a % b).toNat : Int) by rw [BitVec.toNat_umod]; exact Int.natCast_emod _ _ ▸ (Int.tmod_eq_emod_of_nonneg (Int.natCast_nonneg _))] at h
  exact h
end
/-- The high word of a product, as it is reckoned. -/
def hiF (x y : Wd64) : Wd64 :=
  (x >>> 32) * (y >>> 32) + (((x >>> 32) * (y &&& 4294967295#64) + (((x &&& 4294967295#64) * (y &&& 4294967295#64)) >>> 32)) >>> 32) +
    ((((x >>> 32) * (y &&& 4294967295#64) + (((x &&& 4294967295#64) * (y &&& 4294967295#64)) >>> 32)) &&& 4294967295#64) + (x &&& 4294967295#64) * (y >>> 32)) >>> 32
def holdsF (c : Int) (a b : Wd64) : Bool :=
  if c = 1 then decide (a = b) else if c = 2 then !decide (a = b) else if c = 3 then decide (sI a < sI b) else if c = 4 then decide (sI a ≤ sI b) else if c = 5 then decide (a < b) else decide (a ≤ b)
def truthF (b : Bool) : Wd64 := if b = true then 1#64 else 0#64
def rA (x : Fr) (r : Int) : Wd64 := x.r.getD r.toNat 0#64
/-- What an instruction sets; false: it sticks. Of reals: what R says. -/
def valueF (R : Int → Wd64 → Wd64 → Wd64) (heap : Wd64) (x : Fr) (i : Ins) : Wd64 × Bool :=
  if i.kind = 1 then (wI i.imm, true)
  else if i.kind = 27 then (268435456#64 + wI i.imm, true)
  else if i.kind = 28 then (4194304#64 + 16#64 * wI i.f, true)
  else if i.kind = 29 then (heap, true)
  else if i.kind = 31 then (x.slot.getD i.imm.toNat 0#64, x.there.getD i.imm.toNat default)
  else if i.kind = 2 then (rA x i.a, true)
  else if i.kind = 3 then (rA x i.a + rA x i.b, true)
  else if i.kind = 4 then (rA x i.a - rA x i.b, true)
  else if i.kind = 5 then (rA x i.a * rA x i.b, true)
  else if i.kind = 6 then (hiF (rA x i.a) (rA x i.b), true)
  else if i.kind = 9 then (rA x i.a &&& rA x i.b, true)
  else if i.kind = 10 then (rA x i.a ||| rA x i.b, true)
  else if i.kind = 11 then (rA x i.a ^^^ rA x i.b, true)
  else if i.kind = 12 then (rA x i.a <<< (rA x i.b &&& 63#64).toNat, true)
  else if i.kind = 13 then (rA x i.a >>> (rA x i.b &&& 63#64).toNat, true)
  else if i.kind = 14 then (wI (shrOf .i64 (sI (rA x i.a)) ((rA x i.b &&& 63#64).toNat : Int)), true)
  else if i.kind = 15 then (truthF (holdsF i.cond (rA x i.a) (rA x i.b)), true)
  else if i.kind = 16 then (R i.real (rA x i.a) (rA x i.b), true)
  else if rA x i.b = 0#64 then (0#64, false)
  else if i.kind = 7 then (rA x i.a / rA x i.b, true)
  else (rA x i.a % rA x i.b, true)
theorem lt63 (b : Wd64) : (b &&& 63#64).toNat < 64 := by
  rw [BitVec.toNat_and]
  exact Nat.lt_of_le_of_lt Nat.and_le_right (by decide)
/-- Kinds that set a value. -/
def valK (k : Int) : Prop := 1 ≤ k ∧ k ≤ 16 ∨ k = 27 ∨ k = 28 ∨ k = 29 ∨ k = 31
theorem has_ab {k : Int} (h : 3 ≤ k) (h' : k ≤ 16) : (hasF k).a = true ∧ (hasF k).b = true := by
  unfold hasF ofF
  rw [if_neg (by omega), if_neg (by omega)]
  by_cases h15 : k = 15
  · rw [if_neg (by omega), if_pos h15]; exact ⟨rfl, rfl⟩
  · rw [if_pos (by omega)]; exact ⟨rfl, rfl⟩
/-- A call whose rows are as long as it says. -/
structure FrOk (x : Fr) : Prop where
  r : x.r.length = x.nr
  s : x.slot.length = x.ns
  t : x.set.length = x.nr
  h : x.there.length = x.ns
section
variable {pre : List T} {x : Fr} {a : FA}
theorem fr_at (i : Nat) : (pre ++ frC x a)[pre.length + i]? = (frC x a)[i]? := by rw [List.getElem?_append_right (by omega), Nat.add_sub_cancel_left]
theorem fr1 : (pre ++ frC x a)[pre.length + 1]? = some (zi x.at_) := fr_at 1
theorem fr2 : (pre ++ frC x a)[pre.length + 2]? = some (.v (.slice a.r x.nr x.nr)) := fr_at 2
theorem fr3 : (pre ++ frC x a)[pre.length + 3]? = some (.v (.slice a.s x.ns x.ns)) := fr_at 3
theorem fr4 : (pre ++ frC x a)[pre.length + 4]? = some (.v (.slice a.t x.nr x.nr)) := fr_at 4
theorem fr5 : (pre ++ frC x a)[pre.length + 5]? = some (.v (.slice a.h x.ns x.ns)) := fr_at 5
theorem fr_len : (pre ++ frC x a).length = pre.length + 7 := by rw [List.length_append]; rfl
theorem fr_set (i : Nat) (t : T) : (pre ++ frC x a).set (pre.length + i) t = pre ++ (frC x a).set i t := by
  rw [List.set_append_right _ _ (by omega), Nat.add_sub_cancel_left]
theorem fr_jump (z : Int) : (pre ++ frC x a).set (pre.length + 1) (zi z) = pre ++ frC { x with at_ := z } a := fr_set 1 _
end
/-- All of these registers are set. -/
def okS (set : List Bool) (l : List Int) : Bool := l.all fun r => set.getD r.toNat default
theorem okS_one (set : List Bool) (r : Int) : okS set [r] = set.getD r.toNat default := by simp [okS]
theorem okS_app (set : List Bool) (l l' : List Int) : okS set (l ++ l') = (okS set l && okS set l') := by simp [okS]
theorem okS_nil (set : List Bool) : okS set [] = true := rfl
def setD (x : Fr) (d : Int) (v : Wd64) : Fr := { x with r := x.r.set d.toNat v, set := x.set.set d.toNat true }
theorem setD_ok {x : Fr} (h : FrOk x) (d : Int) (v : Wd64) : FrOk (setD x d v) := ⟨List.length_set.trans h.r, h.s, List.length_set.trans h.t, h.h⟩
theorem setD_rows (x : Fr) (a : FA) (d : Int) (v : Wd64) : frR (setD x d v) a = [.row a.r x.nr x.nr 39 1 ((x.r.map zw).set (d.toNat * 1) (zw v)), .row a.s x.ns x.ns 39 1 (x.slot.map zw), .row a.t x.nr x.nr 4 1 ((x.set.map bv).set (d.toNat * 1) (bv true)), .row a.h x.ns x.ns 4 1 (x.there.map bv)] := by
  unfold frR setD
  rw [Nat.mul_one, ← List.map_set, ← List.map_set]
/-- What the last return does. -/
def backP (ps : PS) (v : Wd64) : PS := if ps.ent = true then { ps with st := 3, ans := v } else { ps with st := 1, code := IntKind.i64.wrap ((v &&& 255#64).toNat : Int) }
def putF (x : Fr) (i : Ins) : Fr := { x with slot := x.slot.set i.imm.toNat (rA x i.a), there := x.there.set i.imm.toNat true }
theorem putF_rows (x : Fr) (a : FA) (i : Ins) : frR (putF x i) a = [.row a.r x.nr x.nr 39 1 (x.r.map zw), .row a.s x.ns x.ns 39 1 ((x.slot.map zw).set (i.imm.toNat * 1) (zw (rA x i.a))), .row a.t x.nr x.nr 4 1 (x.set.map bv), .row a.h x.ns x.ns 4 1 ((x.there.map bv).set (i.imm.toNat * 1) (bv true))] := by
  unfold frR putF
  rw [Nat.mul_one, ← List.map_set, ← List.map_set]
theorem putF_ok {x : Fr} (h : FrOk x) (i : Ins) : FrOk (putF x i) := ⟨h.r, List.length_set.trans h.s, h.t, List.length_set.trans h.h⟩
def goF (x : Fr) : Fr := { x with at_ := x.at_ + 1 }
theorem goF_ok {x : Fr} (h : FrOk x) : FrOk (goF x) := ⟨h.r, h.s, h.t, h.h⟩
/-- What a step does that neither jumps nor looks at memory; none: it sticks. -/
def stepA (R : Int → Wd64 → Wd64 → Wd64) (heap : Wd64) (x : Fr) (i : Ins) : Option Fr :=
  if okS x.set (readsF i) = false then none
  else if i.kind = 32 then some (goF (putF x i))
  else if (valueF R heap x i).2 = true then some (goF (setD x i.d (valueF R heap x i).1))
  else none
theorem has_d {k : Int} (h : valK k) : (hasF k).d = true := by
  unfold valK at h
  unfold hasF ofF
  by_cases h0 : ((k = 1 ∨ k = 27) ∨ k = 29) ∨ k = 31
  · rw [if_pos h0]; rfl
  · rw [if_neg h0]
    by_cases h2 : k = 2
    · rw [if_pos h2]; rfl
    · rw [if_neg h2]
      by_cases h3 : (3 ≤ k ∧ k ≤ 14) ∨ k = 16
      · rw [if_pos h3]; rfl
      · rw [if_neg h3]
        by_cases h4 : k = 15
        · rw [if_pos h4]; rfl
        · rw [if_neg h4, if_neg (by omega), if_neg (by omega), if_neg (by omega), if_neg (by omega), if_neg (by omega), if_neg (by omega), if_neg (by omega), if_neg (by omega), if_neg (by omega), if_pos (by omega)]; rfl
/-- What the switch of a step has found. -/
def midA (R : Int → Wd64 → Wd64 → Wd64) (heap : Wd64) (x : Fr) (i : Ins) (v : Wd64) (ok : Bool) (x1 : Fr) : Prop :=
  i.kind = 32 ∧ ok = true ∧ x1 = putF x i ∨ valK i.kind ∧ v = (valueF R heap x i).1 ∧ ok = (valueF R heap x i).2 ∧ x1 = x
section
variable {R : Int → Wd64 → Wd64 → Wd64} {heap : Wd64} {x x1 : Fr} {i : Ins} {v : Wd64} {ok : Bool}
theorem midA_ok (h : midA R heap x i v ok x1) (hx : FrOk x) : FrOk x1 ∧ x1.nr = x.nr ∧ x1.at_ = x.at_ := by
  rcases h with ⟨_, _, rfl⟩ | ⟨_, _, _, rfl⟩
  · exact ⟨putF_ok hx i, rfl, rfl⟩
  · exact ⟨hx, rfl, rfl⟩
theorem stepA_0 (h : okS x.set (readsF i) = false) : stepA R heap x i = none := by rw [stepA, if_pos h]
theorem stepA_1 (h0 : okS x.set (readsF i) = true) (h : midA R heap x i v ok x1) (hn : ok = false) : stepA R heap x i = none ∧ x1 = x := by
  rcases h with ⟨_, h, _⟩ | ⟨hk, _, h, rfl⟩
  · rw [h] at hn; cases hn
  · refine ⟨?_, rfl⟩
    rw [stepA, if_neg (by rw [h0]; decide), if_neg (fun e => by unfold valK at hk; omega), if_neg (by rw [← h, hn]; decide)]
theorem stepA_2 (h0 : okS x.set (readsF i) = true) (h : midA R heap x i v ok x1) (hn : ok = true) (hd : (hasF i.kind).d = true) : stepA R heap x i = some (goF (setD x1 i.d v)) := by
  rcases h with ⟨hk, h, _⟩ | ⟨hk, hv, h, rfl⟩
  · rw [hk] at hd; cases hd
  · rw [stepA, if_neg (by rw [h0]; decide), if_neg (fun e => by unfold valK at hk; omega), if_pos (by rw [← h, hn]), ← hv]
theorem stepA_3 (h0 : okS x.set (readsF i) = true) (h : midA R heap x i v ok x1) (hd : (hasF i.kind).d = false) : stepA R heap x i = some (goF x1) := by
  rcases h with ⟨hk, h, rfl⟩ | ⟨hk, hv, h, rfl⟩
  · rw [stepA, if_neg (by rw [h0]; decide), if_pos hk]
  · rw [has_d hk] at hd; cases hd
end
end Go.Proofs.Ytlfklgganokgdaa
