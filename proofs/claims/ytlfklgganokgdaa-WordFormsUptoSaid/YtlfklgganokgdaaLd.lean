/-
  TEXTS JOINED: Wk9, Wy.
-/
import Derived.Test.YtlfklgganokgdaaLc
set_option linter.unusedSimpArgs false
set_option linter.unusedVariables false
set_option linter.unusedSectionVars false
set_option linter.unnecessarySimpa false
namespace Go.Proofs.Ytlfklgganokgdaa
open Go Go.RowKit
set_option linter.unusedVariables false
set_option linter.unnecessarySimpa false
set_option linter.unusedSimpArgs false

set_option maxHeartbeats 16000000 in
theorem step39_ (p : Prog) (bw : Nat) (f : Fn) (m : Nat) (aA : Option Addr) (n K R : Nat) (fs : FS) (k : Nat) (hp : FnIn f) (hf : FnOk p f) (hR : f.regs = (R : Int)) (h : FOk n K fs) (hnf : n = f.code.length) (hk : k < n) (hK : f.regs + f.slots ≤ 64 * K) (hK2 : K ≤ 17409) (hv : (fs.sls.getD k default).v = some (fs.sls.getD k default).ws) (ht : fs.todo.length ≤ 4398046511000) :
    ACalls Try.prog 39 [.v (.pointer (some ⟨bw, 0, none⟩)), zn k] (.map m (lmT (whL f.code)) :: FSt bw f m aA n fs) (fun t S => ∃ fs', t = bv (readOkB R (f.code.getD k default) (absB (fs.sls.getD k default).ws)) ∧ ((readOkB R (f.code.getD k default) (absB (fs.sls.getD k default).ws)) = true → Tos n K (behindF R (f.code.getD k default) (absB (fs.sls.getD k default).ws)) ((nextF (whL f.code) (f.code.getD k default) k).map Int.toNat) fs fs') ∧ (.map m (lmT (whL f.code)) :: FSt bw f m aA n fs').Sublist S) := by
  have hkl : k < fs.sls.length := by rw [h.len]; exact hk
  have hwk := h.lenK _ (getD_mem hkl) _ hv
  subst hwk
  have hkc : k < f.code.length := by omega
  have hfc := hp.code
  have hio := hf.ins _ (getD_mem hkc)
  have hin := hp.ins _ (getD_mem hkc)
  have hf2 := hf.par2
  have hf3 := hf.regs
  have hf4 := hf.slot0
  have hf5 := hf.slot1
  have hslot := hio.slot
  have hRW : R ≤ 64 * (fs.sls.getD k default).ws.length := by omega
  have hbh := wb3_abs (ws := (fs.sls.getD k default).ws) hR hio hK hf4
  refine ACalls.intro Try.func39 rfl Try.ntmps39 (Nat.le_of_ble_eq_true rfl) rfl fun X w0 => ?_
  refine AW.rseq ?_
  refine Y1 (Yv.assign rfl eV) ?_
  refine nl ?_
  refine AW.rseqP rfl ?_
  refine AWP.take (i := 0) rfl (by kernel_rfl) (by kernel_rfl) (by kernel_rfl) rfl rfl (B rfl) (freeMove rfl (E rfl rfl)) ?_
  refine AWP.take (i := 1) rfl (by kernel_rfl) (by kernel_rfl) (by kernel_rfl) rfl rfl (B rfl) (freeNil rfl (E rfl rfl)) ?_
  refine AWP.take (i := 2) rfl (by kernel_rfl) (by kernel_rfl) (by kernel_rfl) rfl rfl (B rfl) (freeField rfl fo_100_0 (E rfl rfl)) ?_
  refine AWP.take (i := 3) rfl (by kernel_rfl) (by kernel_rfl) (by kernel_rfl) rfl rfl (B rfl) (freeField rfl fo_51_4 (E rfl rfl)) ?_
  refine AWP.take (i := 5) rfl (by kernel_rfl) (by kernel_rfl) (by kernel_rfl) rfl rfl (B rfl) (freeMove rfl (E rfl rfl)) ?_
  refine AWP.take (i := 9) rfl (by kernel_rfl) (by kernel_rfl) (by kernel_rfl) rfl rfl (B rfl) (freeMove rfl (E rfl rfl)) ?_
  refine AWP.take (i := 10) rfl (by kernel_rfl) (by kernel_rfl) (by kernel_rfl) rfl rfl (B rfl) (freeNil rfl (E rfl rfl)) ?_
  refine AWP.take (i := 11) rfl (by kernel_rfl) (by kernel_rfl) (by kernel_rfl) rfl rfl (B rfl) (freeField rfl fo_100_2 (E rfl rfl)) ?_
  refine AWP.take (i := 13) rfl (by kernel_rfl) (by kernel_rfl) (by kernel_rfl) rfl rfl (B rfl) (freeMove rfl (E rfl rfl)) ?_
  refine AWP.node (ι := Option Addr × Option Addr × Nat × Nat × Nat) 0 #[true, true, true, true, true, true, true, true, true, true, true, true, true, true, true, true, true, true, true, true, true] (fun ⟨A19, A27, c27, b5, b6⟩ => [(5, true, .v (.pointer (some ⟨b5, 0, none⟩))), (6, true, .v (.pointer (some ⟨b6, 0, none⟩))), (0, true, .v (.pointer (some ⟨bw, 0, none⟩))), (1, true, zn k)]) (fun ⟨A19, A27, c27, b5, b6⟩ => (.row A27 (fs.sls.getD k default).ws.length c27 39 1 (((fs.sls.getD k default).ws).map zw) :: .box b5 58 (insCells (f.code.getD k default)) :: .box b6 101 [.v (.slice A27 (fs.sls.getD k default).ws.length c27)] :: .map m (lmT (whL f.code)) :: .box bw 100 (flCells f m aA n fs) :: .row aA n n 101 1 (fs.sls.map swCell) :: .row fs.tA fs.todo.length fs.tc 3 1 (fs.todo.map zn) :: fs.sls.map swRow)) (fun ⟨A19, A27, c27, b5, b6⟩ => A19.isSome = true ∧ A27.isSome = true) ?_ ?_
  ·
    rintro ⟨A19, A27, c27, b5, b6⟩ ⟨hA19, hA27⟩
    refine AWP.done (by kernel_rfl) ?_
    refine AW.eqS (S' := .row A27 (fs.sls.getD k default).ws.length c27 39 1 (((fs.sls.getD k default).ws).map zw) :: .box b5 58 (insCells (f.code.getD k default)) :: .box b6 101 [.v (.slice A27 (fs.sls.getD k default).ws.length c27)] :: .map m (lmT (whL f.code)) :: FSt bw f m aA n fs) rfl ?_
    refine AW.rseq ?_
    refine AWL.allocOp rfl rfl (B rfl) rfl zc_4 (fun b7 => ?_)
    refine AWL.perm (List.perm_append_singleton _ _).symm ?_
    refine AWL.storeBox (i := 0) rfl rfl rfl ag_4 rfl (E rfl rfl) (E rfl rfl) rfl rfl (Nat.le_of_ble_eq_true rfl) ?_
    refine nl ?_
    refine AW.perm (S' := (.row A27 (fs.sls.getD k default).ws.length c27 39 1 (((fs.sls.getD k default).ws).map zw) :: .box b7 4 [bv (true)] :: .box b6 101 [.v (.slice A27 (fs.sls.getD k default).ws.length c27)] :: .box b5 58 (insCells (f.code.getD k default)) :: .map m (lmT (whL f.code)) :: FSt bw f m aA n fs)) ((List.Perm.swap _ _ _).trans (((List.Perm.swap _ _ _).cons _).cons _)) ?_
    refine AW.rseq ?_
    refine Y1 (Yv.loadBoxA rfl ag_58 (i := 3) rfl (E rfl rfl) rfl rfl) ?_
    refine Y1 (Yv.makeFunc rfl evs0 rfl (evsC (E rfl rfl) (evsC (E rfl rfl) evs0)) rfl) ?_
    refine C1 rfl ce_49 (E rfl rfl) (evsC (E rfl rfl) (evsC (E rfl rfl) evs0)) (S1 := [.row A27 (fs.sls.getD k default).ws.length c27 39 1 (((fs.sls.getD k default).ws).map zw), .box b7 4 [bv (true)], .box b6 101 [.v (.slice A27 (fs.sls.getD k default).ws.length c27)]]) (S2 := _) rfl (reads49S p f (cntL f.code) (f.code.getD k default) b7 b6 A27 (fs.sls.getD k default).ws.length c27 (fs.sls.getD k default).ws true hio hin.args rfl (by omega) (by omega)) ?_
    rintro t30 S30 ⟨rfl, rfl⟩
    refine nl ?_
    refine AW.eqS (S' := (.row A27 (fs.sls.getD k default).ws.length c27 39 1 (((fs.sls.getD k default).ws).map zw) :: .box b7 4 [bv (true && ((readsF (f.code.getD k default)).all fun r => bitW (fs.sls.getD k default).ws r.toNat))] :: .box b6 101 [.v (.slice A27 (fs.sls.getD k default).ws.length c27)] :: .box b5 58 (insCells (f.code.getD k default)) :: .map m (lmT (whL f.code)) :: FSt bw f m aA n fs)) rfl ?_
    refine AW.mid (α := Unit) (fun _ => [(0, true, .v (.pointer (some ⟨bw, 0, none⟩))), (1, true, zn k), (5, true, .v (.pointer (some ⟨b5, 0, none⟩))), (6, true, .v (.pointer (some ⟨b6, 0, none⟩))), (7, true, .v (.pointer (some ⟨b7, 0, none⟩)))]) (fun _ => (.row A27 (fs.sls.getD k default).ws.length c27 39 1 (((fs.sls.getD k default).ws).map zw) :: .box b7 4 [bv ((readOkB R (f.code.getD k default) (absB (fs.sls.getD k default).ws)))] :: .box b6 101 [.v (.slice A27 (fs.sls.getD k default).ws.length c27)] :: .box b5 58 (insCells (f.code.getD k default)) :: .map m (lmT (whL f.code)) :: FSt bw f m aA n fs)) (fun _ => True) ?_ ?_
    ·
      refine AW.rseq ?_
      refine Y1 (Yv.fieldBox rfl fo_58_0 eV) ?_
      refine Y1 (Yv.loadBox rfl ag_3 (i := 3) rfl (E rfl rfl) rfl) ?_
      refine Y1 (Yv.eql rfl eV eV) ?_
      refine nl ?_
      refine AW.cond rfl (fun h0t => ?_) (fun h0f => ?_)
      ·
        try replace h0t := of_decide_eq_true h0t
        refine AW.regionP rfl ?_
        refine AWP.phase [true, true, true, true, true, true, true, true, true, true, true] 3 rfl (by kernel_rfl) (by kernel_rfl) ?_
        refine AWQ.y rfl rfl (B rfl) (Yv.loadBox rfl ag_4 (i := 1) rfl (E rfl rfl) rfl) ?_
        refine AWQ.y rfl rfl (B rfl) (Yv.move rfl (E rfl rfl)) ?_
        refine AWQ.ygT rfl rfl rfl rfl (B rfl) (Yv.loadBox rfl ag_101 (i := 2) rfl (E rfl rfl) rfl) ?_
        refine AWQ.ygT rfl rfl rfl rfl (B rfl) (Yv.move rfl (E rfl rfl)) ?_
        refine AWQ.ygT rfl rfl rfl rfl (B rfl) (Yv.nilChk rfl (Eg rfl rfl id)) ?_
        refine AWQ.ygT rfl rfl rfl rfl (B rfl) (Yv.fieldBox rfl fo_100_0 (Eg rfl rfl id)) ?_
        refine AWQ.ygT rfl rfl rfl rfl (B rfl) (Yv.fieldBox rfl fo_51_2 (Eg rfl rfl id)) ?_
        refine AWQ.ygT rfl rfl rfl rfl (B rfl) (Yv.loadBox rfl ag_3 (i := 5) rfl (Eg rfl rfl id) rfl) ?_
        refine AWQ.ygT rfl rfl rfl rfl (B rfl) (Yv.fieldBox rfl fo_58_9 (E rfl rfl)) ?_
        refine AWQ.ygT rfl rfl rfl rfl (B rfl) (Yv.loadBox rfl ag_2 (i := 3) rfl (Eg rfl rfl id) rfl) ?_
        refine AWQ.ygT rfl rfl rfl rfl (B rfl) (Yv.eqT (t' := zn (R + (f.code.getD k default).imm.toNat)) (Yv.addN_i64 rfl (Eg rfl rfl id) (Eg rfl rfl id) (fun hg => by omega)) (by unfold zn; rw [show f.regs + (f.code.getD k default).imm = ((R + (f.code.getD k default).imm.toNat : Nat) : Int) by omega])) ?_
        refine AWQ.nil ?_
        refine AWP.one (i := 11) (by kernel_rfl) rfl ?_
        refine AWL.callKgT rfl rfl rfl rfl (B rfl) rfl ce_61 (E rfl rfl) (evsC (Eg rfl rfl id) (evsC (Eg rfl rfl id) evs0)) (S1 := [.row A27 (fs.sls.getD k default).ws.length c27 39 1 (((fs.sls.getD k default).ws).map zw)]) (S2 := _) rfl (fun hg => has61 A27 (fs.sls.getD k default).ws.length c27 (fs.sls.getD k default).ws (R + (f.code.getD k default).imm.toNat) rfl (by omega) (by omega)) (fun t S h => h) ?_
        refine nl ?_
        refine AWP.one (i := 12) (by kernel_rfl) rfl ?_
        refine Y1 (Yv.pickAnd rfl (E rfl rfl) (Eg rfl rfl id)) ?_
        refine nl ?_
        refine AWP.one (i := 13) (by kernel_rfl) rfl ?_
        refine AWL.storeBox (i := 1) rfl rfl rfl ag_4 rfl (E rfl rfl) (E rfl rfl) rfl rfl (Nat.le_of_ble_eq_true rfl) ?_
        refine nl ?_
        refine AWP.done (by kernel_rfl) ?_
        refine ⟨(), trivial, (Sub.cons rfl rfl (Sub.cons rfl rfl (Sub.cons rfl rfl (Sub.cons rfl rfl (Sub.cons rfl rfl Sub.nil))))), ?_⟩
        rw [readOk_abs, decide_eq_true h0t]
        simp
        rfl
      ·
        try replace h0f := of_decide_eq_false h0f
        refine AW.skip ?_
        refine ⟨(), trivial, (Sub.cons rfl rfl (Sub.cons rfl rfl (Sub.cons rfl rfl (Sub.cons rfl rfl (Sub.cons rfl rfl Sub.nil))))), ?_⟩
        rw [readOk_abs, decide_eq_false h0f]
        simp
    ·
      rintro _ hmid
      refine AW.seq ?_
      refine AW.rseq ?_
      refine Y1 (Yv.loadBox rfl ag_4 (i := 1) rfl (E rfl rfl) rfl) ?_
      refine Y1 (Yv.not rfl eV) ?_
      refine nl ?_
      refine AW.cond rfl (fun h1t => ?_) (fun h1f => ?_)
      ·
        try replace h1t := of_decide_eq_true h1t
        have hbad : (readOkB R (f.code.getD k default) (absB (fs.sls.getD k default).ws)) = false := by simpa using h1t
        refine AW.rseq ?_
        refine Y1 (Yv.assign rfl eV) ?_
        refine nl ?_
        refine AW.ret (retI (.tmp rfl .nil) ?_)
        refine ⟨fs, by rw [hbad]; rfl, fun q => absurd (hbad.symm.trans q) (by decide), List.sublist_append_right ([_, _, _, _] : St) _⟩
      ·
        try replace h1f := of_decide_eq_false h1f
        have hgood : (readOkB R (f.code.getD k default) (absB (fs.sls.getD k default).ws)) = true := by simpa using h1f
        refine AW.skip ?_
        refine AW.mid (α := Unit) (fun _ => [(0, true, .v (.pointer (some ⟨bw, 0, none⟩))), (1, true, zn k), (5, true, .v (.pointer (some ⟨b5, 0, none⟩))), (6, true, .v (.pointer (some ⟨b6, 0, none⟩))), (7, true, .v (.pointer (some ⟨b7, 0, none⟩)))]) (fun _ => (.row A27 (fs.sls.getD k default).ws.length c27 39 1 ((wb1 R (f.code.getD k default) (fs.sls.getD k default).ws).map zw) :: .box b7 4 [bv ((readOkB R (f.code.getD k default) (absB (fs.sls.getD k default).ws)))] :: .box b6 101 [.v (.slice A27 (fs.sls.getD k default).ws.length c27)] :: .box b5 58 (insCells (f.code.getD k default)) :: .map m (lmT (whL f.code)) :: FSt bw f m aA n fs)) (fun _ => True) ?_ ?_
        ·
          refine AW.rseq ?_
          refine Y1 (Yv.fieldBox rfl fo_58_0 eV) ?_
          refine Y1 (Yv.loadBox rfl ag_3 (i := 3) rfl (E rfl rfl) rfl) ?_
          refine Y1 (Yv.eql rfl eV eV) ?_
          refine Y1 (Yv.move rfl eV) ?_
          refine AWL.ygF rfl rfl rfl rfl (B rfl) (Yv.fieldBox rfl fo_58_0 (E rfl rfl)) ?_
          refine AWL.ygF rfl rfl rfl rfl (B rfl) (Yv.loadBox rfl ag_3 (i := 3) rfl (Eg rfl rfl id) rfl) ?_
          refine AWL.ygF rfl rfl rfl rfl (B rfl) (Yv.eql rfl (Eg rfl rfl id) (E rfl rfl)) ?_
          refine Y1 (Yv.pickOr (t := .const (.bool true)) rfl (E rfl rfl) (Eg rfl rfl id)) ?_
          refine nl ?_
          refine AW.cond rfl (fun h2t => ?_) (fun h2f => ?_)
          ·
            try replace h2t := of_decide_eq_true h2t
            simp only [ne_eq, Bool.or_eq_true, Bool.and_eq_true, Bool.not_eq_true', decide_eq_true_eq, decide_eq_false_iff_not] at h2t
            refine AW.rseq ?_
            refine Y1 (Yv.move rfl eV) ?_
            refine Y1 (Yv.nilChk rfl eV) ?_
            refine Y1 (Yv.fieldBox rfl fo_100_0 eV) ?_
            refine Y1 (Yv.fieldBox rfl fo_51_2 eV) ?_
            refine Y1 (Yv.loadBox rfl ag_3 (i := 5) rfl (E rfl rfl) rfl) ?_
            refine Y1 (Yv.move rfl eV) ?_
            refine nl ?_
            refine AW.block ?_
            refine AW.loop (fun (r : Nat) => [(0, true, .v (.pointer (some ⟨bw, 0, none⟩))), (1, true, zn k), (5, true, .v (.pointer (some ⟨b5, 0, none⟩))), (6, true, .v (.pointer (some ⟨b6, 0, none⟩))), (7, true, .v (.pointer (some ⟨b7, 0, none⟩))), (61, true, zi f.regs), (62, true, zn r)]) (fun (r : Nat) => (.row A27 (fs.sls.getD k default).ws.length c27 39 1 ((clrTo (fs.sls.getD k default).ws r).map zw) :: .box b7 4 [bv ((readOkB R (f.code.getD k default) (absB (fs.sls.getD k default).ws)))] :: .box b6 101 [.v (.slice A27 (fs.sls.getD k default).ws.length c27)] :: .box b5 58 (insCells (f.code.getD k default)) :: .map m (lmT (whL f.code)) :: FSt bw f m aA n fs)) (fun (r : Nat) => r ≤ R) (fun (r : Nat) => R - r) 0 ?_ ?_ ?_ ?_
            · exact Nat.zero_le _
            · exact (Sub.cons rfl rfl (Sub.cons rfl rfl (Sub.cons rfl rfl (Sub.cons rfl rfl (Sub.cons rfl rfl (Sub.cons rfl rfl (Sub.cons rfl rfl Sub.nil)))))))
            · rfl
            ·
              intro r hinv
              refine AW.rseq ?_
              refine Y1 (Yv.lss rfl eV eV) ?_
              refine nl ?_
              refine AW.seq ?_
              refine AW.cond rfl (fun h3t => ?_) (fun h3f => ?_)
              ·
                try replace h3t := of_decide_eq_true h3t
                have hrR : r < R := by omega
                refine AW.skip ?_
                refine AW.seq ?_
                refine AW.block ?_
                refine AW.rseq ?_
                refine Y1 (Yv.move rfl eV) ?_
                refine Y1 (Yv.assign rfl eV) ?_
                refine nl ?_
                refine AW.regionP rfl ?_
                refine AWP.phase [true, true, true, true, true, true, true, true, true, true] 1 rfl (by kernel_rfl) (by kernel_rfl) ?_
                refine AWQ.y rfl rfl (B rfl) (Yv.loadBox rfl ag_101 (i := 2) rfl (E rfl rfl) rfl) ?_
                refine AWQ.y rfl rfl (B rfl) (Yv.move rfl (E rfl rfl)) ?_
                refine AWQ.y rfl rfl (B rfl) (Yv.eqT (t' := .v (.int .i64 ((r / 64 : Nat) : Int))) (Yv.quoN_i64 rfl (E rfl rfl) (E rfl rfl) (fun hg => by omega)) rfl) ?_
                refine AWQ.y rfl rfl (B rfl) (Yv.indexRow rfl ss_101 (i := 0) rfl (E rfl rfl) (E rfl rfl) (fun hg => ⟨rfl, by omega⟩)) ?_
                refine AWQ.y rfl rfl (B rfl) (Yv.loadEp rfl ag_39 (i := 0) rfl (E rfl rfl) (fun hg => word_at (by rw [clrTo_len]; omega))) ?_
                refine AWQ.y rfl rfl (B rfl) (Yv.move rfl (E rfl rfl)) ?_
                refine AWQ.y rfl rfl (B rfl) (Yv.eqT (t' := .v (.int .i64 ((r % 64 : Nat) : Int))) (Yv.remN rfl (E rfl rfl) (E rfl rfl) (fun hg => by omega)) rfl) ?_
                refine AWQ.y rfl rfl (B rfl) (Yv.shlW (a := 1#64) rfl (E rfl rfl) (E rfl rfl) (Nat.mod_lt r (by decide))) ?_
                refine AWQ.y rfl rfl (B rfl) (Yv.andNotW rfl (E rfl rfl) (E rfl rfl)) ?_
                refine AWQ.y rfl rfl (B rfl) (Yv.indexRow rfl ss_101 (i := 0) rfl (E rfl rfl) (E rfl rfl) (fun hg => ⟨rfl, by omega⟩)) ?_
                refine AWQ.nil ?_
                refine AWP.one (i := 10) (by kernel_rfl) rfl ?_
                refine AWL.storeEp1 (i := 0) rfl rfl rfl ag_39 rfl (E rfl rfl) (E rfl rfl) rfl rfl (by rw [List.length_map, clrTo_len]; omega) ?_
                refine nl ?_
                refine AWP.done (by kernel_rfl) ?_
                refine AW.region ?_
                refine Y1 (Yv.addN_i64 rfl (E rfl rfl) (E rfl rfl) (fun hg => by omega)) ?_
                refine Y1 (Yv.move rfl eV) ?_
                refine nl ?_
                refine ⟨r + 1, by omega, by omega, (Sub.cons rfl rfl (Sub.cons rfl rfl (Sub.cons rfl rfl (Sub.cons rfl rfl (Sub.cons rfl rfl (Sub.cons rfl rfl (Sub.cons rfl (by unfold zn; simp) Sub.nil))))))), ?_⟩
                rw [clrTo_succ, clrW, ← map_set, Nat.mul_one]
                rfl
              ·
                try replace h3f := of_decide_eq_false h3f
                refine AW.exit ?_
                refine ⟨(), trivial, (Sub.cons rfl rfl (Sub.cons rfl rfl (Sub.cons rfl rfl (Sub.cons rfl rfl (Sub.cons rfl rfl Sub.nil))))), ?_⟩
                obtain rfl : r = R := by omega
                rw [wb1, if_pos h2t]
          ·
            try replace h2f := of_decide_eq_false h2f
            replace h2f : ¬ (_ = true) := fun q => Bool.false_ne_true (h2f.symm.trans q)
            simp only [ne_eq, Bool.or_eq_true, Bool.and_eq_true, Bool.not_eq_true', decide_eq_true_eq, decide_eq_false_iff_not] at h2f
            refine AW.skip ?_
            refine ⟨(), trivial, (Sub.cons rfl rfl (Sub.cons rfl rfl (Sub.cons rfl rfl (Sub.cons rfl rfl (Sub.cons rfl rfl Sub.nil))))), ?_⟩
            rw [wb1, if_neg h2f]
        ·
          rintro _ hmid
          refine AW.mid (α := Nat) (fun b9 => [(0, true, .v (.pointer (some ⟨bw, 0, none⟩))), (1, true, zn k), (5, true, .v (.pointer (some ⟨b5, 0, none⟩))), (6, true, .v (.pointer (some ⟨b6, 0, none⟩))), (7, true, .v (.pointer (some ⟨b7, 0, none⟩))), (9, true, .v (.pointer (some ⟨b9, 0, none⟩)))]) (fun b9 => (.row A27 (fs.sls.getD k default).ws.length c27 39 1 ((wb2 R (f.code.getD k default) (fs.sls.getD k default).ws).map zw) :: .box b9 122 (hasCells (hasF (f.code.getD k default).kind)) :: .box b7 4 [bv ((readOkB R (f.code.getD k default) (absB (fs.sls.getD k default).ws)))] :: .box b6 101 [.v (.slice A27 (fs.sls.getD k default).ws.length c27)] :: .box b5 58 (insCells (f.code.getD k default)) :: .map m (lmT (whL f.code)) :: FSt bw f m aA n fs)) (fun _ => True) ?_ ?_
          ·
            refine AW.rseq ?_
            refine Y1 (Yv.fieldBox rfl fo_58_0 eV) ?_
            refine Y1 (Yv.loadBox rfl ag_3 (i := 3) rfl (E rfl rfl) rfl) ?_
            refine AWL.callT rfl rfl (B rfl) rfl ce_57 (E rfl rfl) (evsC (E rfl rfl) evs0) (fields57 (f.code.getD k default).kind) ?_
            rintro t79 S79 rfl
            refine Y1 (Yv.move rfl eV) ?_
            refine Y1 (Yv.extract rfl eV rfl) ?_
            refine Y1 (Yv.extract rfl eV rfl) ?_
            refine AWL.allocOp rfl rfl (B rfl) rfl zc_122 (fun b9 => ?_)
            refine AWL.perm (List.perm_append_singleton _ _).symm ?_
            refine AWL.storeBox (i := 0) rfl rfl rfl ag_122 rfl (E rfl rfl) (E rfl rfl) rfl rfl (Nat.le_of_ble_eq_true rfl) ?_
            refine Y1 (Yv.assign rfl eV) ?_
            refine nl ?_
            refine AW.perm (S' := (.row A27 (fs.sls.getD k default).ws.length c27 39 1 ((wb1 R (f.code.getD k default) (fs.sls.getD k default).ws).map zw) :: .box b9 122 (hasCells (hasF (f.code.getD k default).kind)) :: .box b7 4 [bv ((readOkB R (f.code.getD k default) (absB (fs.sls.getD k default).ws)))] :: .box b6 101 [.v (.slice A27 (fs.sls.getD k default).ws.length c27)] :: .box b5 58 (insCells (f.code.getD k default)) :: .map m (lmT (whL f.code)) :: FSt bw f m aA n fs)) (List.Perm.swap _ _ _) ?_
            refine AW.rseq ?_
            refine Y1 (Yv.fieldBox rfl fo_122_0 eV) ?_
            refine Y1 (Yv.loadBox rfl ag_4 (i := 1) rfl (E rfl rfl) rfl) ?_
            refine nl ?_
            refine AW.cond rfl (fun h4t => ?_) (fun h4f => ?_)
            ·
              try replace h4t := of_decide_eq_true h4t
              have hd := hio.d h4t
              have hdd := wb1_len (R := R) (i := (f.code.getD k default)) (ws := (fs.sls.getD k default).ws)
              refine AW.region ?_
              refine Y1 (Yv.loadBox rfl ag_101 (i := 3) rfl (E rfl rfl) rfl) ?_
              refine Y1 (Yv.fieldBox rfl fo_58_1 eV) ?_
              refine Y1 (Yv.eqT (t' := zn (f.code.getD k default).d.toNat) (Yv.loadBox rfl ag_3 (i := 4) rfl (E rfl rfl) rfl) (by unfold zn; rw [Int.toNat_of_nonneg hd.1]; rfl)) ?_
              refine C1 rfl ce_37 (E rfl rfl) (evsC (E rfl rfl) (evsC (E rfl rfl) evs0)) (S1 := [.row A27 (fs.sls.getD k default).ws.length c27 39 1 ((wb1 R (f.code.getD k default) (fs.sls.getD k default).ws).map zw)]) (S2 := _) rfl (put37 A27 (fs.sls.getD k default).ws.length c27 (wb1 R (f.code.getD k default) (fs.sls.getD k default).ws) (f.code.getD k default).d.toNat wb1_len (by omega) (by omega)) ?_
              rintro t87 S87 ⟨rfl, rfl⟩
              refine nl ?_
              refine ⟨b9, trivial, (Sub.cons rfl rfl (Sub.cons rfl rfl (Sub.cons rfl rfl (Sub.cons rfl rfl (Sub.cons rfl rfl (Sub.cons rfl rfl Sub.nil)))))), ?_⟩
              rw [wb2, if_pos h4t]
              rfl
            ·
              try replace h4f := of_decide_eq_false h4f
              refine AW.skip ?_
              refine ⟨b9, trivial, (Sub.cons rfl rfl (Sub.cons rfl rfl (Sub.cons rfl rfl (Sub.cons rfl rfl (Sub.cons rfl rfl (Sub.cons rfl rfl Sub.nil)))))), ?_⟩
              rw [wb2, if_neg (by rw [show (hasF (f.code.getD k default).kind).d = false from h4f]; decide)]
          ·
            rintro b9 _
            refine AW.mid (α := Unit) (fun _ => [(0, true, .v (.pointer (some ⟨bw, 0, none⟩))), (1, true, zn k), (5, true, .v (.pointer (some ⟨b5, 0, none⟩))), (6, true, .v (.pointer (some ⟨b6, 0, none⟩))), (7, true, .v (.pointer (some ⟨b7, 0, none⟩))), (9, true, .v (.pointer (some ⟨b9, 0, none⟩)))]) (fun _ => (.row A27 (fs.sls.getD k default).ws.length c27 39 1 ((wb3 R (f.code.getD k default) (fs.sls.getD k default).ws).map zw) :: .box b9 122 (hasCells (hasF (f.code.getD k default).kind)) :: .box b7 4 [bv ((readOkB R (f.code.getD k default) (absB (fs.sls.getD k default).ws)))] :: .box b6 101 [.v (.slice A27 (fs.sls.getD k default).ws.length c27)] :: .box b5 58 (insCells (f.code.getD k default)) :: .map m (lmT (whL f.code)) :: FSt bw f m aA n fs)) (fun _ => True) ?_ ?_
            ·
              refine AW.rseq ?_
              refine Y1 (Yv.fieldBox rfl fo_58_0 eV) ?_
              refine Y1 (Yv.loadBox rfl ag_3 (i := 4) rfl (E rfl rfl) rfl) ?_
              refine Y1 (Yv.eql rfl eV eV) ?_
              refine nl ?_
              refine AW.cond rfl (fun h5t => ?_) (fun h5f => ?_)
              ·
                try replace h5t := of_decide_eq_true h5t
                have hs5 := hslot (.inr h5t)
                refine AW.regionP rfl ?_
                refine AWP.phase [true, true, true, true, true, true, true, true, true] 1 rfl (by kernel_rfl) (by kernel_rfl) ?_
                refine AWQ.y rfl rfl (B rfl) (Yv.loadBox rfl ag_101 (i := 3) rfl (E rfl rfl) rfl) ?_
                refine AWQ.y rfl rfl (B rfl) (Yv.move rfl (E rfl rfl)) ?_
                refine AWQ.y rfl rfl (B rfl) (Yv.nilChk rfl (E rfl rfl)) ?_
                refine AWQ.y rfl rfl (B rfl) (Yv.fieldBox rfl fo_100_0 (E rfl rfl)) ?_
                refine AWQ.y rfl rfl (B rfl) (Yv.fieldBox rfl fo_51_2 (E rfl rfl)) ?_
                refine AWQ.y rfl rfl (B rfl) (Yv.loadBox rfl ag_3 (i := 6) rfl (E rfl rfl) rfl) ?_
                refine AWQ.y rfl rfl (B rfl) (Yv.fieldBox rfl fo_58_9 (E rfl rfl)) ?_
                refine AWQ.y rfl rfl (B rfl) (Yv.loadBox rfl ag_2 (i := 4) rfl (E rfl rfl) rfl) ?_
                refine AWQ.y rfl rfl (B rfl) (Yv.eqT (t' := zn (R + (f.code.getD k default).imm.toNat)) (Yv.addN_i64 rfl (E rfl rfl) (E rfl rfl) (fun hg => by omega)) (by unfold zn; rw [show f.regs + (f.code.getD k default).imm = ((R + (f.code.getD k default).imm.toNat : Nat) : Int) by omega])) ?_
                refine AWQ.nil ?_
                refine AWP.one (i := 9) (by kernel_rfl) rfl ?_
                refine C1 rfl ce_37 (E rfl rfl) (evsC (E rfl rfl) (evsC (E rfl rfl) evs0)) (S1 := [.row A27 (fs.sls.getD k default).ws.length c27 39 1 ((wb2 R (f.code.getD k default) (fs.sls.getD k default).ws).map zw)]) (S2 := _) rfl (put37 A27 (fs.sls.getD k default).ws.length c27 (wb2 R (f.code.getD k default) (fs.sls.getD k default).ws) (R + (f.code.getD k default).imm.toNat) wb2_len (by omega) (by omega)) ?_
                rintro t100 S100 ⟨rfl, rfl⟩
                refine nl ?_
                refine AWP.done (by kernel_rfl) ?_
                refine ⟨(), trivial, (Sub.cons rfl rfl (Sub.cons rfl rfl (Sub.cons rfl rfl (Sub.cons rfl rfl (Sub.cons rfl rfl (Sub.cons rfl rfl Sub.nil)))))), ?_⟩
                rw [wb3, if_pos h5t]
                rfl
              ·
                try replace h5f := of_decide_eq_false h5f
                refine AW.skip ?_
                refine ⟨(), trivial, (Sub.cons rfl rfl (Sub.cons rfl rfl (Sub.cons rfl rfl (Sub.cons rfl rfl (Sub.cons rfl rfl (Sub.cons rfl rfl Sub.nil)))))), ?_⟩
                rw [wb3, if_neg h5f]
            ·
              rintro _ hmid
              refine AW.mid (α := FS) (fun _ => [(0, true, .v (.pointer (some ⟨bw, 0, none⟩))), (1, true, zn k), (5, true, .v (.pointer (some ⟨b5, 0, none⟩))), (6, true, .v (.pointer (some ⟨b6, 0, none⟩))), (7, true, .v (.pointer (some ⟨b7, 0, none⟩))), (9, true, .v (.pointer (some ⟨b9, 0, none⟩)))]) (fun fs1 => (.box b9 122 (hasCells (hasF (f.code.getD k default).kind)) :: .box b7 4 [bv ((readOkB R (f.code.getD k default) (absB (fs.sls.getD k default).ws)))] :: .box b6 101 [.v (.slice A27 (fs.sls.getD k default).ws.length c27)] :: .box b5 58 (insCells (f.code.getD k default)) :: .map m (lmT (whL f.code)) :: .row A27 (fs.sls.getD k default).ws.length c27 39 1 ((wb3 R (f.code.getD k default) (fs.sls.getD k default).ws).map zw) :: FSt bw f m aA n fs1)) (fun fs1 => Tos n (fs.sls.getD k default).ws.length (absB (wb3 R (f.code.getD k default) (fs.sls.getD k default).ws)) ((nx1 (whL f.code) (f.code.getD k default)).map Int.toNat) fs fs1 ∧ FOk n (fs.sls.getD k default).ws.length fs1 ∧ fs1.todo.length ≤ fs.todo.length + 1) ?_ ?_
              ·
                refine AW.perm (S' := (.box b9 122 (hasCells (hasF (f.code.getD k default).kind)) :: .box b7 4 [bv ((readOkB R (f.code.getD k default) (absB (fs.sls.getD k default).ws)))] :: .box b6 101 [.v (.slice A27 (fs.sls.getD k default).ws.length c27)] :: .box b5 58 (insCells (f.code.getD k default)) :: .map m (lmT (whL f.code)) :: .row A27 (fs.sls.getD k default).ws.length c27 39 1 ((wb3 R (f.code.getD k default) (fs.sls.getD k default).ws).map zw) :: FSt bw f m aA n fs)) (List.perm_middle (l₁ := ([.box b9 122 (hasCells (hasF (f.code.getD k default).kind)), .box b7 4 [bv ((readOkB R (f.code.getD k default) (absB (fs.sls.getD k default).ws)))], .box b6 101 [.v (.slice A27 (fs.sls.getD k default).ws.length c27)], .box b5 58 (insCells (f.code.getD k default)), .map m (lmT (whL f.code))] : St))) ?_
                refine AW.rseq ?_
                refine Y1 (Yv.fieldBox rfl fo_58_0 eV) ?_
                refine Y1 (Yv.loadBox rfl ag_3 (i := 3) rfl (E rfl rfl) rfl) ?_
                refine Y1 (Yv.eql rfl eV eV) ?_
                refine Y1 (Yv.move rfl eV) ?_
                refine AWL.ygF rfl rfl rfl rfl (B rfl) (Yv.fieldBox rfl fo_58_0 (E rfl rfl)) ?_
                refine AWL.ygF rfl rfl rfl rfl (B rfl) (Yv.loadBox rfl ag_3 (i := 3) rfl (Eg rfl rfl id) rfl) ?_
                refine AWL.ygF rfl rfl rfl rfl (B rfl) (Yv.eql rfl (Eg rfl rfl id) (E rfl rfl)) ?_
                refine Y1 (Yv.pickOr (t := .const (.bool true)) rfl (E rfl rfl) (Eg rfl rfl id)) ?_
                refine nl ?_
                refine AW.cond rfl (fun h6t => ?_) (fun h6f => ?_)
                ·
                  try replace h6t := of_decide_eq_true h6t
                  simp only [ne_eq, Bool.or_eq_true, Bool.and_eq_true, Bool.not_eq_true', decide_eq_true_eq, decide_eq_false_iff_not] at h6t
                  have hlab := hio.lab (by rcases h6t with q | q <;> rw [q] <;> rfl)
                  have hlb := wh_in (code := f.code) (l := (f.code.getD k default).l) (by omega)
                  have hlb1 := hlb.1
                  have hlb2 : (getL (f.code.getD k default).l (whL f.code)).toNat < n := by omega
                  refine AW.regionP rfl ?_
                  refine AWP.phase [true, true, true, true, true, true, true, true, true] 1 rfl (by kernel_rfl) (by kernel_rfl) ?_
                  refine AWQ.y rfl rfl (B rfl) (Yv.move rfl (E rfl rfl)) ?_
                  refine AWQ.y rfl rfl (B rfl) (Yv.move rfl (E rfl rfl)) ?_
                  refine AWQ.y rfl rfl (B rfl) (Yv.nilChk rfl (E rfl rfl)) ?_
                  refine AWQ.y rfl rfl (B rfl) (Yv.fieldBox rfl fo_100_1 (E rfl rfl)) ?_
                  refine AWQ.y rfl rfl (B rfl) (Yv.loadBox rfl ag_53 (i := 6) rfl (E rfl rfl) rfl) ?_
                  refine AWQ.y rfl rfl (B rfl) (Yv.fieldBox rfl fo_58_4 (E rfl rfl)) ?_
                  refine AWQ.y rfl rfl (B rfl) (Yv.loadBox rfl ag_3 (i := 3) rfl (E rfl rfl) rfl) ?_
                  refine AWQ.y rfl rfl (B rfl) (Yv.eqT (t' := zn (getL (f.code.getD k default).l (whL f.code)).toNat) (Yv.eqT (Yv.lookup1 (k := .i _ _) (i := 4) rfl mp_53 rfl (E rfl rfl) (E rfl rfl) rfl (lm_good _ _ rfl)) (get_lm _ _)) (by unfold zn; rw [Int.toNat_of_nonneg hlb1]; rfl)) ?_
                  refine AWQ.y rfl rfl (B rfl) (Yv.loadBox rfl ag_101 (i := 2) rfl (E rfl rfl) rfl) ?_
                  refine AWQ.nil ?_
                  refine AWP.one (i := 9) (by kernel_rfl) rfl ?_
                  refine AWL.callE rfl rfl (B rfl) rfl ce_38 (E rfl rfl) (evsC (E rfl rfl) (evsC (E rfl rfl) (evsC (E rfl rfl) evs0))) (F1 := [.box b9 122 (hasCells (hasF (f.code.getD k default).kind)), .box b7 4 [bv ((readOkB R (f.code.getD k default) (absB (fs.sls.getD k default).ws)))], .box b6 101 [.v (.slice A27 (fs.sls.getD k default).ws.length c27)], .box b5 58 (insCells (f.code.getD k default)), .map m (lmT (whL f.code))]) (S1 := (.row A27 (fs.sls.getD k default).ws.length c27 39 1 ((wb3 R (f.code.getD k default) (fs.sls.getD k default).ws).map zw) :: FSt bw f m aA n fs)) rfl (to38 bw f m aA n (fs.sls.getD k default).ws.length fs (getL (f.code.getD k default).l (whL f.code)).toNat A27 c27 (wb3 R (f.code.getD k default) (fs.sls.getD k default).ws) h hlb2 (by omega) (by omega) wb3_len (by omega)) ?_
                  rintro t118 S118 ⟨rfl, fs1, hto, rfl⟩
                  refine nl ?_
                  refine AWP.done (by kernel_rfl) ?_
                  refine ⟨fs1, ⟨by rw [nx1_t h6t]; exact ⟨fs1, hto, rfl⟩, hto.ok, ?_⟩, (Sub.cons rfl rfl (Sub.cons rfl rfl (Sub.cons rfl rfl (Sub.cons rfl rfl (Sub.cons rfl rfl (Sub.cons rfl rfl Sub.nil)))))), rfl⟩
                  rw [hto.todo]
                  split <;> simp
                ·
                  try replace h6f := of_decide_eq_false h6f
                  replace h6f : ¬ (_ = true) := fun q => Bool.false_ne_true (h6f.symm.trans q)
                  simp only [ne_eq, Bool.or_eq_true, Bool.and_eq_true, Bool.not_eq_true', decide_eq_true_eq, decide_eq_false_iff_not] at h6f
                  refine AW.skip ?_
                  refine ⟨fs, ⟨by rw [nx1_f h6f]; exact rfl, h, by omega⟩, (Sub.cons rfl rfl (Sub.cons rfl rfl (Sub.cons rfl rfl (Sub.cons rfl rfl (Sub.cons rfl rfl (Sub.cons rfl rfl Sub.nil)))))), rfl⟩
              ·
                rintro fs1 ⟨htos, hok1, htd0⟩
                refine AW.seq ?_
                refine AW.rseq ?_
                refine Y1 (Yv.fieldBox rfl fo_58_0 eV) ?_
                refine Y1 (Yv.loadBox rfl ag_3 (i := 3) rfl (E rfl rfl) rfl) ?_
                refine AWL.callP rfl rfl (B rfl) rfl ce_34 (E rfl rfl) (evsC (E rfl rfl) evs0) (ends34 (f.code.getD k default).kind) (fun t S h => h) ?_
                refine Y1 (Yv.not rfl eV) ?_
                refine nl ?_
                refine AW.cond rfl (fun h7t => ?_) (fun h7f => ?_)
                ·
                  try replace h7t := of_decide_eq_true h7t
                  have hen : endsF (f.code.getD k default).kind = false := by simpa using h7t
                  have hlb3 : k + 1 < n := by
                    have hx := next_in hf hkc ((k : Int) + 1) (by rw [nx_f hen]; exact List.mem_append.2 (.inr List.mem_cons_self))
                    omega
                  have htd1 : fs1.todo.length ≤ 4398046511104 := by omega
                  refine AW.region ?_
                  refine Y1 (Yv.move rfl eV) ?_
                  refine Y1 (Yv.move rfl eV) ?_
                  refine Y1 (Yv.addN_i64 rfl (E rfl rfl) (E rfl rfl) (fun hg => by omega)) ?_
                  refine Y1 (Yv.loadBox rfl ag_101 (i := 2) rfl (E rfl rfl) rfl) ?_
                  refine AWL.callE rfl rfl (B rfl) rfl ce_38 (E rfl rfl) (evsC (E rfl rfl) (evsC (E rfl rfl) (evsC (E rfl rfl) evs0))) (F1 := [.box b9 122 (hasCells (hasF (f.code.getD k default).kind)), .box b7 4 [bv ((readOkB R (f.code.getD k default) (absB (fs.sls.getD k default).ws)))], .box b6 101 [.v (.slice A27 (fs.sls.getD k default).ws.length c27)], .box b5 58 (insCells (f.code.getD k default)), .map m (lmT (whL f.code))]) (S1 := (.row A27 (fs.sls.getD k default).ws.length c27 39 1 ((wb3 R (f.code.getD k default) (fs.sls.getD k default).ws).map zw) :: FSt bw f m aA n fs1)) rfl (to38 bw f m aA n (fs.sls.getD k default).ws.length fs1 (k + 1) A27 c27 (wb3 R (f.code.getD k default) (fs.sls.getD k default).ws) hok1 hlb3 (by omega) (by omega) wb3_len htd1) ?_
                  rintro t127 S127 ⟨rfl, fs2, hto2, rfl⟩
                  refine nl ?_
                  refine AW.rseq ?_
                  refine Y1 (Yv.assign rfl eV) ?_
                  refine nl ?_
                  refine AW.ret (retI (.tmp rfl .nil) ?_)
                  refine ⟨fs2, by rw [hgood]; rfl, fun _ => ?_, ?_⟩
                  · rw [nx_f hen, List.map_append, ← hbh]
                    exact htos.app ⟨fs2, hto2, rfl⟩
                  · exact (List.Sublist.cons_cons _ (List.sublist_append_right ([_] : St) _)).trans (List.sublist_append_right ([_, _, _, _] : St) _)
                ·
                  try replace h7f := of_decide_eq_false h7f
                  have hen : endsF (f.code.getD k default).kind = true := by simpa using h7f
                  refine AW.skip ?_
                  refine AW.rseq ?_
                  refine Y1 (Yv.assign rfl eV) ?_
                  refine nl ?_
                  refine AW.ret (retI (.tmp rfl .nil) ?_)
                  refine ⟨fs1, by rw [hgood]; rfl, fun _ => ?_, ?_⟩
                  · rw [nx_t hen, ← hbh]
                    exact htos
                  · exact (List.Sublist.cons_cons _ (List.sublist_append_right ([_] : St) _)).trans (List.sublist_append_right ([_, _, _, _] : St) _)
  intro nd111111111111111111111
  refine AWP.node (ι := Option Addr × Option Addr × Nat × Nat × Nat) 1 #[true, true, true, true, true, true, true, true, true, true, true, true, true, true, true, true, true, true, true, true, false] (fun ⟨A19, A27, c27, b5, b6⟩ => [(27, true, .v (.slice A27 (fs.sls.getD k default).ws.length c27)), (5, true, .v (.pointer (some ⟨b5, 0, none⟩))), (6, true, .v (.pointer (some ⟨b6, 0, none⟩))), (0, true, .v (.pointer (some ⟨bw, 0, none⟩))), (1, true, zn k)]) (fun ⟨A19, A27, c27, b5, b6⟩ => (.row A27 (fs.sls.getD k default).ws.length c27 39 1 (((fs.sls.getD k default).ws).map zw) :: .box b5 58 (insCells (f.code.getD k default)) :: .box b6 101 (([.slice none 0 0]).map T.v) :: .map m (lmT (whL f.code)) :: .box bw 100 (flCells f m aA n fs) :: .row aA n n 101 1 (fs.sls.map swCell) :: .row fs.tA fs.todo.length fs.tc 3 1 (fs.todo.map zn) :: fs.sls.map swRow)) (fun ⟨A19, A27, c27, b5, b6⟩ => A19.isSome = true ∧ A27.isSome = true) ?_ ?_
  ·
    rintro ⟨A19, A27, c27, b5, b6⟩ ⟨hA19, hA27⟩
    refine AWP.one (i := 20) (by kernel_rfl) rfl ?_ 
    ·
      refine AWL.storeBox (i := 2) rfl rfl rfl ag_101 rfl (E rfl rfl) (E rfl rfl) rfl rfl (Nat.le_of_ble_eq_true rfl) ?_
      refine nl ?_
      exact AWP.to (nd111111111111111111111 (A19, A27, c27, b5, b6) ⟨hA19, hA27⟩) (by kernel_rfl) rfl (Sub.cons rfl rfl (Sub.cons rfl rfl (Sub.cons rfl rfl (Sub.cons rfl rfl Sub.nil))))
  intro nd111111111111111111110
  refine AWP.node (ι := Option Addr × Option Addr × Nat × Nat × Nat) 2 #[true, true, true, true, true, true, true, true, true, true, true, true, true, true, true, true, true, true, true, false, false] (fun ⟨A19, A27, c27, b5, b6⟩ => [(18, true, .agg (insCells (f.code.getD k default))), (27, true, .v (.slice A27 (fs.sls.getD k default).ws.length c27)), (5, true, .v (.pointer (some ⟨b5, 0, none⟩))), (6, true, .v (.pointer (some ⟨b6, 0, none⟩))), (0, true, .v (.pointer (some ⟨bw, 0, none⟩))), (1, true, zn k)]) (fun ⟨A19, A27, c27, b5, b6⟩ => (.row A27 (fs.sls.getD k default).ws.length c27 39 1 (((fs.sls.getD k default).ws).map zw) :: .box b5 58 (([.int .i64 0, .int .i64 0, .int .i64 0, .int .i64 0, .int .i64 0, .int .i64 0, .int .i64 0, .int .i64 0, .int .i64 0, .int .i64 0, .slice none 0 0]).map T.v) :: .box b6 101 (([.slice none 0 0]).map T.v) :: .map m (lmT (whL f.code)) :: .box bw 100 (flCells f m aA n fs) :: .row aA n n 101 1 (fs.sls.map swCell) :: .row fs.tA fs.todo.length fs.tc 3 1 (fs.todo.map zn) :: fs.sls.map swRow)) (fun ⟨A19, A27, c27, b5, b6⟩ => A19.isSome = true ∧ A27.isSome = true) ?_ ?_
  ·
    rintro ⟨A19, A27, c27, b5, b6⟩ ⟨hA19, hA27⟩
    refine AWP.one (i := 19) (by kernel_rfl) rfl ?_ 
    ·
      refine AWL.storeBox (i := 1) rfl rfl rfl ag_58 rfl (E rfl rfl) (E rfl rfl) rfl rfl (Nat.le_of_ble_eq_true rfl) ?_
      refine nl ?_
      exact AWP.to (nd111111111111111111110 (A19, A27, c27, b5, b6) ⟨hA19, hA27⟩) (by kernel_rfl) rfl (Sub.cons rfl rfl (Sub.cons rfl rfl (Sub.cons rfl rfl (Sub.cons rfl rfl (Sub.cons rfl rfl Sub.nil)))))
  intro nd111111111111111111100
  refine AWP.node (ι := Option Addr × Option Addr × Nat × Nat) 3 #[true, true, true, true, true, true, true, true, true, true, true, true, true, true, true, true, true, true, false, false, false] (fun ⟨A19, A27, c27, b5⟩ => [(18, true, .agg (insCells (f.code.getD k default))), (27, true, .v (.slice A27 (fs.sls.getD k default).ws.length c27)), (5, true, .v (.pointer (some ⟨b5, 0, none⟩))), (0, true, .v (.pointer (some ⟨bw, 0, none⟩))), (1, true, zn k)]) (fun ⟨A19, A27, c27, b5⟩ => (.row A27 (fs.sls.getD k default).ws.length c27 39 1 (((fs.sls.getD k default).ws).map zw) :: .box b5 58 (([.int .i64 0, .int .i64 0, .int .i64 0, .int .i64 0, .int .i64 0, .int .i64 0, .int .i64 0, .int .i64 0, .int .i64 0, .int .i64 0, .slice none 0 0]).map T.v) :: .map m (lmT (whL f.code)) :: .box bw 100 (flCells f m aA n fs) :: .row aA n n 101 1 (fs.sls.map swCell) :: .row fs.tA fs.todo.length fs.tc 3 1 (fs.todo.map zn) :: fs.sls.map swRow)) (fun ⟨A19, A27, c27, b5⟩ => A19.isSome = true ∧ A27.isSome = true) ?_ ?_
  ·
    rintro ⟨A19, A27, c27, b5⟩ ⟨hA19, hA27⟩
    refine AWP.one (i := 18) (by kernel_rfl) rfl ?_ 
    ·
      refine AWL.allocOp rfl rfl (B rfl) rfl zc_101 (fun b6 => ?_)
      refine AWL.perm (perm_ins (α := Ent) (F := [.row A27 (fs.sls.getD k default).ws.length c27 39 1 (((fs.sls.getD k default).ws).map zw), .box b5 58 (([.int .i64 0, .int .i64 0, .int .i64 0, .int .i64 0, .int .i64 0, .int .i64 0, .int .i64 0, .int .i64 0, .int .i64 0, .int .i64 0, .slice none 0 0]).map T.v)]) (G := (.map m (lmT (whL f.code)) :: .box bw 100 (flCells f m aA n fs) :: .row aA n n 101 1 (fs.sls.map swCell) :: .row fs.tA fs.todo.length fs.tc 3 1 (fs.todo.map zn) :: fs.sls.map swRow)) (x := .box b6 101 (([.slice none 0 0]).map T.v))) ?_
      refine nl ?_
      exact AWP.to (nd111111111111111111100 (A19, A27, c27, b5, b6) ⟨hA19, hA27⟩) (by kernel_rfl) rfl (Sub.cons rfl rfl (Sub.cons rfl rfl (Sub.cons rfl rfl (Sub.cons rfl rfl (Sub.cons rfl rfl (Sub.cons rfl rfl Sub.nil))))))
  intro nd111111111111111111000
  refine AWP.node (ι := Option Addr × Option Addr × Nat × Nat) 3 #[true, true, true, true, true, true, true, true, true, true, true, true, true, true, true, true, true, false, true, false, false] (fun ⟨A19, A27, c27, b6⟩ => [(18, true, .agg (insCells (f.code.getD k default))), (27, true, .v (.slice A27 (fs.sls.getD k default).ws.length c27)), (6, true, .v (.pointer (some ⟨b6, 0, none⟩))), (0, true, .v (.pointer (some ⟨bw, 0, none⟩))), (1, true, zn k)]) (fun ⟨A19, A27, c27, b6⟩ => (.row A27 (fs.sls.getD k default).ws.length c27 39 1 (((fs.sls.getD k default).ws).map zw) :: .box b6 101 (([.slice none 0 0]).map T.v) :: .map m (lmT (whL f.code)) :: .box bw 100 (flCells f m aA n fs) :: .row aA n n 101 1 (fs.sls.map swCell) :: .row fs.tA fs.todo.length fs.tc 3 1 (fs.todo.map zn) :: fs.sls.map swRow)) (fun ⟨A19, A27, c27, b6⟩ => A19.isSome = true ∧ A27.isSome = true) ?_ ?_
  ·
    rintro ⟨A19, A27, c27, b6⟩ ⟨hA19, hA27⟩
    refine AWP.one (i := 17) (by kernel_rfl) rfl ?_ 
    ·
      refine AWL.allocOp rfl rfl (B rfl) rfl zc_58 (fun b5 => ?_)
      refine AWL.perm (perm_ins (α := Ent) (F := [.row A27 (fs.sls.getD k default).ws.length c27 39 1 (((fs.sls.getD k default).ws).map zw)]) (G := (.box b6 101 (([.slice none 0 0]).map T.v) :: .map m (lmT (whL f.code)) :: .box bw 100 (flCells f m aA n fs) :: .row aA n n 101 1 (fs.sls.map swCell) :: .row fs.tA fs.todo.length fs.tc 3 1 (fs.todo.map zn) :: fs.sls.map swRow)) (x := .box b5 58 (([.int .i64 0, .int .i64 0, .int .i64 0, .int .i64 0, .int .i64 0, .int .i64 0, .int .i64 0, .int .i64 0, .int .i64 0, .int .i64 0, .slice none 0 0]).map T.v))) ?_
      refine nl ?_
      exact AWP.to (nd111111111111111111100 (A19, A27, c27, b5, b6) ⟨hA19, hA27⟩) (by kernel_rfl) rfl (Sub.cons rfl rfl (Sub.cons rfl rfl (Sub.cons rfl rfl (Sub.cons rfl rfl (Sub.cons rfl rfl (Sub.cons rfl rfl Sub.nil))))))
  intro nd111111111111111110100
  refine AWP.node (ι := Option Addr × Nat × Nat) 3 #[true, true, true, true, true, true, true, true, true, true, true, true, true, true, true, true, false, true, true, false, false] (fun ⟨A19, b5, b6⟩ => [(18, true, .agg (insCells (f.code.getD k default))), (19, true, .v (.slice A19 0 0)), (26, true, swCell (fs.sls.getD k default)), (5, true, .v (.pointer (some ⟨b5, 0, none⟩))), (6, true, .v (.pointer (some ⟨b6, 0, none⟩))), (0, true, .v (.pointer (some ⟨bw, 0, none⟩))), (1, true, zn k)]) (fun ⟨A19, b5, b6⟩ => (.row A19 0 0 39 1 [] :: .box b5 58 (([.int .i64 0, .int .i64 0, .int .i64 0, .int .i64 0, .int .i64 0, .int .i64 0, .int .i64 0, .int .i64 0, .int .i64 0, .int .i64 0, .slice none 0 0]).map T.v) :: .box b6 101 (([.slice none 0 0]).map T.v) :: .map m (lmT (whL f.code)) :: .box bw 100 (flCells f m aA n fs) :: .row aA n n 101 1 (fs.sls.map swCell) :: .row fs.tA fs.todo.length fs.tc 3 1 (fs.todo.map zn) :: fs.sls.map swRow)) (fun ⟨A19, b5, b6⟩ => A19.isSome = true) ?_ ?_
  ·
    rintro ⟨A19, b5, b6⟩ hA19
    refine AWP.one (i := 16) (by kernel_rfl) rfl ?_ 
    ·
      refine AWL.appendRowS (i := 0) rfl rfl (B rfl) rfl el_101 (B rfl) rfl (E rfl rfl) (SrcT.row so_101 (i := k + 7) (sw_row hkl) (E rfl rfl)) (by unfold maxLen; omega) (by omega) hA19 (fun A27 c27 hA27 => ?_)
      rw [Nat.zero_add]
      refine nl ?_
      exact AWP.to (nd111111111111111111100 (A19, A27, c27, b5, b6) ⟨hA19, hA27⟩) (by kernel_rfl) rfl (Sub.cons rfl rfl (Sub.cons rfl rfl (Sub.cons rfl rfl (Sub.cons rfl rfl (Sub.cons rfl rfl (Sub.cons rfl rfl Sub.nil))))))
  intro nd111111111111111101100
  refine AWP.node (ι := Option Addr × Option Addr × Nat × Nat × Nat) 3 #[true, true, true, true, true, true, true, false, true, true, true, true, true, true, true, true, true, true, true, false, false] (fun ⟨A19, A27, c27, b5, b6⟩ => [(17, true, .rp (f.code.flatMap insCells) (k * 11)), (27, true, .v (.slice A27 (fs.sls.getD k default).ws.length c27)), (5, true, .v (.pointer (some ⟨b5, 0, none⟩))), (6, true, .v (.pointer (some ⟨b6, 0, none⟩))), (0, true, .v (.pointer (some ⟨bw, 0, none⟩))), (1, true, zn k)]) (fun ⟨A19, A27, c27, b5, b6⟩ => (.row A27 (fs.sls.getD k default).ws.length c27 39 1 (((fs.sls.getD k default).ws).map zw) :: .box b5 58 (([.int .i64 0, .int .i64 0, .int .i64 0, .int .i64 0, .int .i64 0, .int .i64 0, .int .i64 0, .int .i64 0, .int .i64 0, .int .i64 0, .slice none 0 0]).map T.v) :: .box b6 101 (([.slice none 0 0]).map T.v) :: .map m (lmT (whL f.code)) :: .box bw 100 (flCells f m aA n fs) :: .row aA n n 101 1 (fs.sls.map swCell) :: .row fs.tA fs.todo.length fs.tc 3 1 (fs.todo.map zn) :: fs.sls.map swRow)) (fun ⟨A19, A27, c27, b5, b6⟩ => A19.isSome = true ∧ A27.isSome = true) ?_ ?_
  ·
    rintro ⟨A19, A27, c27, b5, b6⟩ ⟨hA19, hA27⟩
    refine AWP.one (i := 7) (by kernel_rfl) rfl ?_ 
    ·
      refine Y1 (Yv.loadRpA rfl ag_58 (E rfl rfl) (fun hg => ins_cells hkc)) ?_
      refine nl ?_
      exact AWP.to (nd111111111111111111100 (A19, A27, c27, b5, b6) ⟨hA19, hA27⟩) (by kernel_rfl) rfl (Sub.cons rfl rfl (Sub.cons rfl rfl (Sub.cons rfl rfl (Sub.cons rfl rfl (Sub.cons rfl rfl (Sub.cons rfl rfl Sub.nil))))))
  intro nd111111101111111111100
  refine AWP.node (ι := Option Addr × Option Addr × Nat) 4 #[true, true, true, true, true, true, true, true, true, true, true, true, true, true, true, true, true, false, false, false, false] (fun ⟨A19, A27, c27⟩ => [(18, true, .agg (insCells (f.code.getD k default))), (27, true, .v (.slice A27 (fs.sls.getD k default).ws.length c27)), (0, true, .v (.pointer (some ⟨bw, 0, none⟩))), (1, true, zn k)]) (fun ⟨A19, A27, c27⟩ => (.row A27 (fs.sls.getD k default).ws.length c27 39 1 (((fs.sls.getD k default).ws).map zw) :: .map m (lmT (whL f.code)) :: .box bw 100 (flCells f m aA n fs) :: .row aA n n 101 1 (fs.sls.map swCell) :: .row fs.tA fs.todo.length fs.tc 3 1 (fs.todo.map zn) :: fs.sls.map swRow)) (fun ⟨A19, A27, c27⟩ => A19.isSome = true ∧ A27.isSome = true) ?_ ?_
  ·
    rintro ⟨A19, A27, c27⟩ ⟨hA19, hA27⟩
    refine AWP.two (i := 17) (j := 18) (by kernel_rfl) rfl rfl ?_ ?_ 
    ·
      refine AWL.allocOp rfl rfl (B rfl) rfl zc_58 (fun b5 => ?_)
      refine AWL.perm (perm_ins (α := Ent) (F := [.row A27 (fs.sls.getD k default).ws.length c27 39 1 (((fs.sls.getD k default).ws).map zw)]) (G := (.map m (lmT (whL f.code)) :: .box bw 100 (flCells f m aA n fs) :: .row aA n n 101 1 (fs.sls.map swCell) :: .row fs.tA fs.todo.length fs.tc 3 1 (fs.todo.map zn) :: fs.sls.map swRow)) (x := .box b5 58 (([.int .i64 0, .int .i64 0, .int .i64 0, .int .i64 0, .int .i64 0, .int .i64 0, .int .i64 0, .int .i64 0, .int .i64 0, .int .i64 0, .slice none 0 0]).map T.v))) ?_
      refine nl ?_
      exact AWP.to (nd111111111111111111000 (A19, A27, c27, b5) ⟨hA19, hA27⟩) (by kernel_rfl) rfl (Sub.cons rfl rfl (Sub.cons rfl rfl (Sub.cons rfl rfl (Sub.cons rfl rfl (Sub.cons rfl rfl Sub.nil)))))
    ·
      refine AWL.allocOp rfl rfl (B rfl) rfl zc_101 (fun b6 => ?_)
      refine AWL.perm (perm_ins (α := Ent) (F := [.row A27 (fs.sls.getD k default).ws.length c27 39 1 (((fs.sls.getD k default).ws).map zw)]) (G := (.map m (lmT (whL f.code)) :: .box bw 100 (flCells f m aA n fs) :: .row aA n n 101 1 (fs.sls.map swCell) :: .row fs.tA fs.todo.length fs.tc 3 1 (fs.todo.map zn) :: fs.sls.map swRow)) (x := .box b6 101 (([.slice none 0 0]).map T.v))) ?_
      refine nl ?_
      exact AWP.to (nd111111111111111110100 (A19, A27, c27, b6) ⟨hA19, hA27⟩) (by kernel_rfl) rfl (Sub.cons rfl rfl (Sub.cons rfl rfl (Sub.cons rfl rfl (Sub.cons rfl rfl (Sub.cons rfl rfl Sub.nil)))))
  intro nd111111111111111110000
  refine AWP.node (ι := Option Addr × Nat) 4 #[true, true, true, true, true, true, true, true, true, true, true, true, true, true, true, true, false, true, false, false, false] (fun ⟨A19, b5⟩ => [(18, true, .agg (insCells (f.code.getD k default))), (19, true, .v (.slice A19 0 0)), (26, true, swCell (fs.sls.getD k default)), (5, true, .v (.pointer (some ⟨b5, 0, none⟩))), (0, true, .v (.pointer (some ⟨bw, 0, none⟩))), (1, true, zn k)]) (fun ⟨A19, b5⟩ => (.row A19 0 0 39 1 [] :: .box b5 58 (([.int .i64 0, .int .i64 0, .int .i64 0, .int .i64 0, .int .i64 0, .int .i64 0, .int .i64 0, .int .i64 0, .int .i64 0, .int .i64 0, .slice none 0 0]).map T.v) :: .map m (lmT (whL f.code)) :: .box bw 100 (flCells f m aA n fs) :: .row aA n n 101 1 (fs.sls.map swCell) :: .row fs.tA fs.todo.length fs.tc 3 1 (fs.todo.map zn) :: fs.sls.map swRow)) (fun ⟨A19, b5⟩ => A19.isSome = true) ?_ ?_
  ·
    rintro ⟨A19, b5⟩ hA19
    refine AWP.two (i := 16) (j := 18) (by kernel_rfl) rfl rfl ?_ ?_ 
    ·
      refine AWL.appendRowS (i := 0) rfl rfl (B rfl) rfl el_101 (B rfl) rfl (E rfl rfl) (SrcT.row so_101 (i := k + 6) (sw_row hkl) (E rfl rfl)) (by unfold maxLen; omega) (by omega) hA19 (fun A27 c27 hA27 => ?_)
      rw [Nat.zero_add]
      refine nl ?_
      exact AWP.to (nd111111111111111111000 (A19, A27, c27, b5) ⟨hA19, hA27⟩) (by kernel_rfl) rfl (Sub.cons rfl rfl (Sub.cons rfl rfl (Sub.cons rfl rfl (Sub.cons rfl rfl (Sub.cons rfl rfl Sub.nil)))))
    ·
      refine AWL.allocOp rfl rfl (B rfl) rfl zc_101 (fun b6 => ?_)
      refine AWL.perm (perm_ins (α := Ent) (F := [.row A19 0 0 39 1 [], .box b5 58 (([.int .i64 0, .int .i64 0, .int .i64 0, .int .i64 0, .int .i64 0, .int .i64 0, .int .i64 0, .int .i64 0, .int .i64 0, .int .i64 0, .slice none 0 0]).map T.v)]) (G := (.map m (lmT (whL f.code)) :: .box bw 100 (flCells f m aA n fs) :: .row aA n n 101 1 (fs.sls.map swCell) :: .row fs.tA fs.todo.length fs.tc 3 1 (fs.todo.map zn) :: fs.sls.map swRow)) (x := .box b6 101 (([.slice none 0 0]).map T.v))) ?_
      refine nl ?_
      exact AWP.to (nd111111111111111101100 (A19, b5, b6) hA19) (by kernel_rfl) rfl (Sub.cons rfl rfl (Sub.cons rfl rfl (Sub.cons rfl rfl (Sub.cons rfl rfl (Sub.cons rfl rfl (Sub.cons rfl rfl (Sub.cons rfl rfl Sub.nil)))))))
  intro nd111111111111111101000
  refine AWP.node (ι := Option Addr × Nat) 4 #[true, true, true, true, true, true, true, true, true, true, true, true, true, true, true, true, false, false, true, false, false] (fun ⟨A19, b6⟩ => [(18, true, .agg (insCells (f.code.getD k default))), (19, true, .v (.slice A19 0 0)), (26, true, swCell (fs.sls.getD k default)), (6, true, .v (.pointer (some ⟨b6, 0, none⟩))), (0, true, .v (.pointer (some ⟨bw, 0, none⟩))), (1, true, zn k)]) (fun ⟨A19, b6⟩ => (.row A19 0 0 39 1 [] :: .box b6 101 (([.slice none 0 0]).map T.v) :: .map m (lmT (whL f.code)) :: .box bw 100 (flCells f m aA n fs) :: .row aA n n 101 1 (fs.sls.map swCell) :: .row fs.tA fs.todo.length fs.tc 3 1 (fs.todo.map zn) :: fs.sls.map swRow)) (fun ⟨A19, b6⟩ => A19.isSome = true) ?_ ?_
  ·
    rintro ⟨A19, b6⟩ hA19
    refine AWP.two (i := 16) (j := 17) (by kernel_rfl) rfl rfl ?_ ?_ 
    ·
      refine AWL.appendRowS (i := 0) rfl rfl (B rfl) rfl el_101 (B rfl) rfl (E rfl rfl) (SrcT.row so_101 (i := k + 6) (sw_row hkl) (E rfl rfl)) (by unfold maxLen; omega) (by omega) hA19 (fun A27 c27 hA27 => ?_)
      rw [Nat.zero_add]
      refine nl ?_
      exact AWP.to (nd111111111111111110100 (A19, A27, c27, b6) ⟨hA19, hA27⟩) (by kernel_rfl) rfl (Sub.cons rfl rfl (Sub.cons rfl rfl (Sub.cons rfl rfl (Sub.cons rfl rfl (Sub.cons rfl rfl Sub.nil)))))
    ·
      refine AWL.allocOp rfl rfl (B rfl) rfl zc_58 (fun b5 => ?_)
      refine AWL.perm (perm_ins (α := Ent) (F := [.row A19 0 0 39 1 []]) (G := (.box b6 101 (([.slice none 0 0]).map T.v) :: .map m (lmT (whL f.code)) :: .box bw 100 (flCells f m aA n fs) :: .row aA n n 101 1 (fs.sls.map swCell) :: .row fs.tA fs.todo.length fs.tc 3 1 (fs.todo.map zn) :: fs.sls.map swRow)) (x := .box b5 58 (([.int .i64 0, .int .i64 0, .int .i64 0, .int .i64 0, .int .i64 0, .int .i64 0, .int .i64 0, .int .i64 0, .int .i64 0, .int .i64 0, .slice none 0 0]).map T.v))) ?_
      refine nl ?_
      exact AWP.to (nd111111111111111101100 (A19, b5, b6) hA19) (by kernel_rfl) rfl (Sub.cons rfl rfl (Sub.cons rfl rfl (Sub.cons rfl rfl (Sub.cons rfl rfl (Sub.cons rfl rfl (Sub.cons rfl rfl (Sub.cons rfl rfl Sub.nil)))))))
  intro nd111111111111111100100
  refine AWP.node (ι := Option Addr × Nat × Nat) 4 #[true, true, true, true, true, true, true, true, true, true, true, true, true, true, true, false, false, true, true, false, false] (fun ⟨A19, b5, b6⟩ => [(18, true, .agg (insCells (f.code.getD k default))), (19, true, .v (.slice A19 0 0)), (25, true, .ep (.slice aA n n) (k * 1)), (5, true, .v (.pointer (some ⟨b5, 0, none⟩))), (6, true, .v (.pointer (some ⟨b6, 0, none⟩))), (0, true, .v (.pointer (some ⟨bw, 0, none⟩))), (1, true, zn k)]) (fun ⟨A19, b5, b6⟩ => (.row A19 0 0 39 1 [] :: .box b5 58 (([.int .i64 0, .int .i64 0, .int .i64 0, .int .i64 0, .int .i64 0, .int .i64 0, .int .i64 0, .int .i64 0, .int .i64 0, .int .i64 0, .slice none 0 0]).map T.v) :: .box b6 101 (([.slice none 0 0]).map T.v) :: .map m (lmT (whL f.code)) :: .box bw 100 (flCells f m aA n fs) :: .row aA n n 101 1 (fs.sls.map swCell) :: .row fs.tA fs.todo.length fs.tc 3 1 (fs.todo.map zn) :: fs.sls.map swRow)) (fun ⟨A19, b5, b6⟩ => A19.isSome = true) ?_ ?_
  ·
    rintro ⟨A19, b5, b6⟩ hA19
    refine AWP.one (i := 15) (by kernel_rfl) rfl ?_ 
    ·
      refine Y1 (Yv.loadEp rfl ag_101 (i := 5) rfl (E rfl rfl) (fun hg => sw_cell hkl)) ?_
      refine nl ?_
      exact AWP.to (nd111111111111111101100 (A19, b5, b6) hA19) (by kernel_rfl) rfl (Sub.cons rfl rfl (Sub.cons rfl rfl (Sub.cons rfl rfl (Sub.cons rfl rfl (Sub.cons rfl rfl (Sub.cons rfl rfl (Sub.cons rfl rfl Sub.nil)))))))
  intro nd111111111111111001100
  refine AWP.node (ι := Nat × Nat) 4 #[true, true, true, true, true, true, true, true, false, true, true, true, true, true, true, true, false, true, true, false, false] (fun ⟨b5, b6⟩ => [(18, true, .agg (insCells (f.code.getD k default))), (26, true, swCell (fs.sls.getD k default)), (5, true, .v (.pointer (some ⟨b5, 0, none⟩))), (6, true, .v (.pointer (some ⟨b6, 0, none⟩))), (0, true, .v (.pointer (some ⟨bw, 0, none⟩))), (1, true, zn k)]) (fun ⟨b5, b6⟩ => (.box b5 58 (([.int .i64 0, .int .i64 0, .int .i64 0, .int .i64 0, .int .i64 0, .int .i64 0, .int .i64 0, .int .i64 0, .int .i64 0, .int .i64 0, .slice none 0 0]).map T.v) :: .box b6 101 (([.slice none 0 0]).map T.v) :: .map m (lmT (whL f.code)) :: .box bw 100 (flCells f m aA n fs) :: .row aA n n 101 1 (fs.sls.map swCell) :: .row fs.tA fs.todo.length fs.tc 3 1 (fs.todo.map zn) :: fs.sls.map swRow)) (fun ⟨b5, b6⟩ => True) ?_ ?_
  ·
    rintro ⟨b5, b6⟩ _
    refine AWP.one (i := 8) (by kernel_rfl) rfl ?_ 
    ·
      refine AWL.buildSliceRowS rfl rfl (B rfl) rfl el_101 (B rfl) rfl evs0 (Nat.le_of_ble_eq_true rfl) rfl rfl (fun A19 hA19 => ?_)
      refine AWL.perm (perm_ins (α := Ent) (F := []) (G := (.box b5 58 (([.int .i64 0, .int .i64 0, .int .i64 0, .int .i64 0, .int .i64 0, .int .i64 0, .int .i64 0, .int .i64 0, .int .i64 0, .int .i64 0, .slice none 0 0]).map T.v) :: .box b6 101 (([.slice none 0 0]).map T.v) :: .map m (lmT (whL f.code)) :: .box bw 100 (flCells f m aA n fs) :: .row aA n n 101 1 (fs.sls.map swCell) :: .row fs.tA fs.todo.length fs.tc 3 1 (fs.todo.map zn) :: fs.sls.map swRow)) (x := .row A19 0 0 39 1 [])) ?_
      refine nl ?_
      exact AWP.to (nd111111111111111101100 (A19, b5, b6) hA19) (by kernel_rfl) rfl (Sub.cons rfl rfl (Sub.cons rfl rfl (Sub.cons rfl rfl (Sub.cons rfl rfl (Sub.cons rfl rfl (Sub.cons rfl rfl (Sub.cons rfl rfl Sub.nil)))))))
  intro nd111111110111111101100
  refine AWP.node (ι := Option Addr × Option Addr × Nat × Nat) 4 #[true, true, true, true, true, true, true, false, true, true, true, true, true, true, true, true, true, true, false, false, false] (fun ⟨A19, A27, c27, b5⟩ => [(17, true, .rp (f.code.flatMap insCells) (k * 11)), (27, true, .v (.slice A27 (fs.sls.getD k default).ws.length c27)), (5, true, .v (.pointer (some ⟨b5, 0, none⟩))), (0, true, .v (.pointer (some ⟨bw, 0, none⟩))), (1, true, zn k)]) (fun ⟨A19, A27, c27, b5⟩ => (.row A27 (fs.sls.getD k default).ws.length c27 39 1 (((fs.sls.getD k default).ws).map zw) :: .box b5 58 (([.int .i64 0, .int .i64 0, .int .i64 0, .int .i64 0, .int .i64 0, .int .i64 0, .int .i64 0, .int .i64 0, .int .i64 0, .int .i64 0, .slice none 0 0]).map T.v) :: .map m (lmT (whL f.code)) :: .box bw 100 (flCells f m aA n fs) :: .row aA n n 101 1 (fs.sls.map swCell) :: .row fs.tA fs.todo.length fs.tc 3 1 (fs.todo.map zn) :: fs.sls.map swRow)) (fun ⟨A19, A27, c27, b5⟩ => A19.isSome = true ∧ A27.isSome = true) ?_ ?_
  ·
    rintro ⟨A19, A27, c27, b5⟩ ⟨hA19, hA27⟩
    refine AWP.two (i := 7) (j := 18) (by kernel_rfl) rfl rfl ?_ ?_ 
    ·
      refine Y1 (Yv.loadRpA rfl ag_58 (E rfl rfl) (fun hg => ins_cells hkc)) ?_
      refine nl ?_
      exact AWP.to (nd111111111111111111000 (A19, A27, c27, b5) ⟨hA19, hA27⟩) (by kernel_rfl) rfl (Sub.cons rfl rfl (Sub.cons rfl rfl (Sub.cons rfl rfl (Sub.cons rfl rfl (Sub.cons rfl rfl Sub.nil)))))
    ·
      refine AWL.allocOp rfl rfl (B rfl) rfl zc_101 (fun b6 => ?_)
      refine AWL.perm (perm_ins (α := Ent) (F := [.row A27 (fs.sls.getD k default).ws.length c27 39 1 (((fs.sls.getD k default).ws).map zw), .box b5 58 (([.int .i64 0, .int .i64 0, .int .i64 0, .int .i64 0, .int .i64 0, .int .i64 0, .int .i64 0, .int .i64 0, .int .i64 0, .int .i64 0, .slice none 0 0]).map T.v)]) (G := (.map m (lmT (whL f.code)) :: .box bw 100 (flCells f m aA n fs) :: .row aA n n 101 1 (fs.sls.map swCell) :: .row fs.tA fs.todo.length fs.tc 3 1 (fs.todo.map zn) :: fs.sls.map swRow)) (x := .box b6 101 (([.slice none 0 0]).map T.v))) ?_
      refine nl ?_
      exact AWP.to (nd111111101111111111100 (A19, A27, c27, b5, b6) ⟨hA19, hA27⟩) (by kernel_rfl) rfl (Sub.cons rfl rfl (Sub.cons rfl rfl (Sub.cons rfl rfl (Sub.cons rfl rfl (Sub.cons rfl rfl (Sub.cons rfl rfl Sub.nil))))))
  intro nd111111101111111111000
  refine AWP.node (ι := Option Addr × Option Addr × Nat × Nat) 4 #[true, true, true, true, true, true, true, false, true, true, true, true, true, true, true, true, true, false, true, false, false] (fun ⟨A19, A27, c27, b6⟩ => [(17, true, .rp (f.code.flatMap insCells) (k * 11)), (27, true, .v (.slice A27 (fs.sls.getD k default).ws.length c27)), (6, true, .v (.pointer (some ⟨b6, 0, none⟩))), (0, true, .v (.pointer (some ⟨bw, 0, none⟩))), (1, true, zn k)]) (fun ⟨A19, A27, c27, b6⟩ => (.row A27 (fs.sls.getD k default).ws.length c27 39 1 (((fs.sls.getD k default).ws).map zw) :: .box b6 101 (([.slice none 0 0]).map T.v) :: .map m (lmT (whL f.code)) :: .box bw 100 (flCells f m aA n fs) :: .row aA n n 101 1 (fs.sls.map swCell) :: .row fs.tA fs.todo.length fs.tc 3 1 (fs.todo.map zn) :: fs.sls.map swRow)) (fun ⟨A19, A27, c27, b6⟩ => A19.isSome = true ∧ A27.isSome = true) ?_ ?_
  ·
    rintro ⟨A19, A27, c27, b6⟩ ⟨hA19, hA27⟩
    refine AWP.two (i := 7) (j := 17) (by kernel_rfl) rfl rfl ?_ ?_ 
    ·
      refine Y1 (Yv.loadRpA rfl ag_58 (E rfl rfl) (fun hg => ins_cells hkc)) ?_
      refine nl ?_
      exact AWP.to (nd111111111111111110100 (A19, A27, c27, b6) ⟨hA19, hA27⟩) (by kernel_rfl) rfl (Sub.cons rfl rfl (Sub.cons rfl rfl (Sub.cons rfl rfl (Sub.cons rfl rfl (Sub.cons rfl rfl Sub.nil)))))
    ·
      refine AWL.allocOp rfl rfl (B rfl) rfl zc_58 (fun b5 => ?_)
      refine AWL.perm (perm_ins (α := Ent) (F := [.row A27 (fs.sls.getD k default).ws.length c27 39 1 (((fs.sls.getD k default).ws).map zw)]) (G := (.box b6 101 (([.slice none 0 0]).map T.v) :: .map m (lmT (whL f.code)) :: .box bw 100 (flCells f m aA n fs) :: .row aA n n 101 1 (fs.sls.map swCell) :: .row fs.tA fs.todo.length fs.tc 3 1 (fs.todo.map zn) :: fs.sls.map swRow)) (x := .box b5 58 (([.int .i64 0, .int .i64 0, .int .i64 0, .int .i64 0, .int .i64 0, .int .i64 0, .int .i64 0, .int .i64 0, .int .i64 0, .int .i64 0, .slice none 0 0]).map T.v))) ?_
      refine nl ?_
      exact AWP.to (nd111111101111111111100 (A19, A27, c27, b5, b6) ⟨hA19, hA27⟩) (by kernel_rfl) rfl (Sub.cons rfl rfl (Sub.cons rfl rfl (Sub.cons rfl rfl (Sub.cons rfl rfl (Sub.cons rfl rfl (Sub.cons rfl rfl Sub.nil))))))
  intro nd111111101111111110100
  refine AWP.node (ι := Option Addr × Nat × Nat) 4 #[true, true, true, true, true, true, true, false, true, true, true, true, true, true, true, true, false, true, true, false, false] (fun ⟨A19, b5, b6⟩ => [(17, true, .rp (f.code.flatMap insCells) (k * 11)), (19, true, .v (.slice A19 0 0)), (26, true, swCell (fs.sls.getD k default)), (5, true, .v (.pointer (some ⟨b5, 0, none⟩))), (6, true, .v (.pointer (some ⟨b6, 0, none⟩))), (0, true, .v (.pointer (some ⟨bw, 0, none⟩))), (1, true, zn k)]) (fun ⟨A19, b5, b6⟩ => (.row A19 0 0 39 1 [] :: .box b5 58 (([.int .i64 0, .int .i64 0, .int .i64 0, .int .i64 0, .int .i64 0, .int .i64 0, .int .i64 0, .int .i64 0, .int .i64 0, .int .i64 0, .slice none 0 0]).map T.v) :: .box b6 101 (([.slice none 0 0]).map T.v) :: .map m (lmT (whL f.code)) :: .box bw 100 (flCells f m aA n fs) :: .row aA n n 101 1 (fs.sls.map swCell) :: .row fs.tA fs.todo.length fs.tc 3 1 (fs.todo.map zn) :: fs.sls.map swRow)) (fun ⟨A19, b5, b6⟩ => A19.isSome = true) ?_ ?_
  ·
    rintro ⟨A19, b5, b6⟩ hA19
    refine AWP.two (i := 7) (j := 16) (by kernel_rfl) rfl rfl ?_ ?_ 
    ·
      refine Y1 (Yv.loadRpA rfl ag_58 (E rfl rfl) (fun hg => ins_cells hkc)) ?_
      refine nl ?_
      exact AWP.to (nd111111111111111101100 (A19, b5, b6) hA19) (by kernel_rfl) rfl (Sub.cons rfl rfl (Sub.cons rfl rfl (Sub.cons rfl rfl (Sub.cons rfl rfl (Sub.cons rfl rfl (Sub.cons rfl rfl (Sub.cons rfl rfl Sub.nil)))))))
    ·
      refine AWL.appendRowS (i := 0) rfl rfl (B rfl) rfl el_101 (B rfl) rfl (E rfl rfl) (SrcT.row so_101 (i := k + 7) (sw_row hkl) (E rfl rfl)) (by unfold maxLen; omega) (by omega) hA19 (fun A27 c27 hA27 => ?_)
      rw [Nat.zero_add]
      refine nl ?_
      exact AWP.to (nd111111101111111111100 (A19, A27, c27, b5, b6) ⟨hA19, hA27⟩) (by kernel_rfl) rfl (Sub.cons rfl rfl (Sub.cons rfl rfl (Sub.cons rfl rfl (Sub.cons rfl rfl (Sub.cons rfl rfl (Sub.cons rfl rfl Sub.nil))))))
  intro nd111111101111111101100
  refine AWP.node (ι := Option Addr) 5 #[true, true, true, true, true, true, true, true, true, true, true, true, true, true, true, true, false, false, false, false, false] (fun A19 => [(18, true, .agg (insCells (f.code.getD k default))), (19, true, .v (.slice A19 0 0)), (26, true, swCell (fs.sls.getD k default)), (0, true, .v (.pointer (some ⟨bw, 0, none⟩))), (1, true, zn k)]) (fun A19 => (.row A19 0 0 39 1 [] :: .map m (lmT (whL f.code)) :: .box bw 100 (flCells f m aA n fs) :: .row aA n n 101 1 (fs.sls.map swCell) :: .row fs.tA fs.todo.length fs.tc 3 1 (fs.todo.map zn) :: fs.sls.map swRow)) (fun A19 => A19.isSome = true) ?_ ?_
  ·
    rintro A19 hA19
    refine AWP.three (i := 16) (j := 17) (k := 18) (by kernel_rfl) rfl rfl rfl ?_ ?_ ?_ 
    ·
      refine AWL.appendRowS (i := 0) rfl rfl (B rfl) rfl el_101 (B rfl) rfl (E rfl rfl) (SrcT.row so_101 (i := k + 5) (sw_row hkl) (E rfl rfl)) (by unfold maxLen; omega) (by omega) hA19 (fun A27 c27 hA27 => ?_)
      rw [Nat.zero_add]
      refine nl ?_
      exact AWP.to (nd111111111111111110000 (A19, A27, c27) ⟨hA19, hA27⟩) (by kernel_rfl) rfl (Sub.cons rfl rfl (Sub.cons rfl rfl (Sub.cons rfl rfl (Sub.cons rfl rfl Sub.nil))))
    ·
      refine AWL.allocOp rfl rfl (B rfl) rfl zc_58 (fun b5 => ?_)
      refine AWL.perm (perm_ins (α := Ent) (F := [.row A19 0 0 39 1 []]) (G := (.map m (lmT (whL f.code)) :: .box bw 100 (flCells f m aA n fs) :: .row aA n n 101 1 (fs.sls.map swCell) :: .row fs.tA fs.todo.length fs.tc 3 1 (fs.todo.map zn) :: fs.sls.map swRow)) (x := .box b5 58 (([.int .i64 0, .int .i64 0, .int .i64 0, .int .i64 0, .int .i64 0, .int .i64 0, .int .i64 0, .int .i64 0, .int .i64 0, .int .i64 0, .slice none 0 0]).map T.v))) ?_
      refine nl ?_
      exact AWP.to (nd111111111111111101000 (A19, b5) hA19) (by kernel_rfl) rfl (Sub.cons rfl rfl (Sub.cons rfl rfl (Sub.cons rfl rfl (Sub.cons rfl rfl (Sub.cons rfl rfl (Sub.cons rfl rfl Sub.nil))))))
    ·
      refine AWL.allocOp rfl rfl (B rfl) rfl zc_101 (fun b6 => ?_)
      refine AWL.perm (perm_ins (α := Ent) (F := [.row A19 0 0 39 1 []]) (G := (.map m (lmT (whL f.code)) :: .box bw 100 (flCells f m aA n fs) :: .row aA n n 101 1 (fs.sls.map swCell) :: .row fs.tA fs.todo.length fs.tc 3 1 (fs.todo.map zn) :: fs.sls.map swRow)) (x := .box b6 101 (([.slice none 0 0]).map T.v))) ?_
      refine nl ?_
      exact AWP.to (nd111111111111111100100 (A19, b6) hA19) (by kernel_rfl) rfl (Sub.cons rfl rfl (Sub.cons rfl rfl (Sub.cons rfl rfl (Sub.cons rfl rfl (Sub.cons rfl rfl (Sub.cons rfl rfl Sub.nil))))))
  intro nd111111111111111100000
  refine AWP.node (ι := Option Addr × Nat) 5 #[true, true, true, true, true, true, true, true, true, true, true, true, true, true, true, false, false, true, false, false, false] (fun ⟨A19, b5⟩ => [(18, true, .agg (insCells (f.code.getD k default))), (19, true, .v (.slice A19 0 0)), (25, true, .ep (.slice aA n n) (k * 1)), (5, true, .v (.pointer (some ⟨b5, 0, none⟩))), (0, true, .v (.pointer (some ⟨bw, 0, none⟩))), (1, true, zn k)]) (fun ⟨A19, b5⟩ => (.row A19 0 0 39 1 [] :: .box b5 58 (([.int .i64 0, .int .i64 0, .int .i64 0, .int .i64 0, .int .i64 0, .int .i64 0, .int .i64 0, .int .i64 0, .int .i64 0, .int .i64 0, .slice none 0 0]).map T.v) :: .map m (lmT (whL f.code)) :: .box bw 100 (flCells f m aA n fs) :: .row aA n n 101 1 (fs.sls.map swCell) :: .row fs.tA fs.todo.length fs.tc 3 1 (fs.todo.map zn) :: fs.sls.map swRow)) (fun ⟨A19, b5⟩ => A19.isSome = true) ?_ ?_
  ·
    rintro ⟨A19, b5⟩ hA19
    refine AWP.two (i := 15) (j := 18) (by kernel_rfl) rfl rfl ?_ ?_ 
    ·
      refine Y1 (Yv.loadEp rfl ag_101 (i := 4) rfl (E rfl rfl) (fun hg => sw_cell hkl)) ?_
      refine nl ?_
      exact AWP.to (nd111111111111111101000 (A19, b5) hA19) (by kernel_rfl) rfl (Sub.cons rfl rfl (Sub.cons rfl rfl (Sub.cons rfl rfl (Sub.cons rfl rfl (Sub.cons rfl rfl (Sub.cons rfl rfl Sub.nil))))))
    ·
      refine AWL.allocOp rfl rfl (B rfl) rfl zc_101 (fun b6 => ?_)
      refine AWL.perm (perm_ins (α := Ent) (F := [.row A19 0 0 39 1 [], .box b5 58 (([.int .i64 0, .int .i64 0, .int .i64 0, .int .i64 0, .int .i64 0, .int .i64 0, .int .i64 0, .int .i64 0, .int .i64 0, .int .i64 0, .slice none 0 0]).map T.v)]) (G := (.map m (lmT (whL f.code)) :: .box bw 100 (flCells f m aA n fs) :: .row aA n n 101 1 (fs.sls.map swCell) :: .row fs.tA fs.todo.length fs.tc 3 1 (fs.todo.map zn) :: fs.sls.map swRow)) (x := .box b6 101 (([.slice none 0 0]).map T.v))) ?_
      refine nl ?_
      exact AWP.to (nd111111111111111001100 (A19, b5, b6) hA19) (by kernel_rfl) rfl (Sub.cons rfl rfl (Sub.cons rfl rfl (Sub.cons rfl rfl (Sub.cons rfl rfl (Sub.cons rfl rfl (Sub.cons rfl rfl (Sub.cons rfl rfl Sub.nil)))))))
  intro nd111111111111111001000
  refine AWP.node (ι := Option Addr × Nat) 5 #[true, true, true, true, true, true, true, true, true, true, true, true, true, true, true, false, false, false, true, false, false] (fun ⟨A19, b6⟩ => [(18, true, .agg (insCells (f.code.getD k default))), (19, true, .v (.slice A19 0 0)), (25, true, .ep (.slice aA n n) (k * 1)), (6, true, .v (.pointer (some ⟨b6, 0, none⟩))), (0, true, .v (.pointer (some ⟨bw, 0, none⟩))), (1, true, zn k)]) (fun ⟨A19, b6⟩ => (.row A19 0 0 39 1 [] :: .box b6 101 (([.slice none 0 0]).map T.v) :: .map m (lmT (whL f.code)) :: .box bw 100 (flCells f m aA n fs) :: .row aA n n 101 1 (fs.sls.map swCell) :: .row fs.tA fs.todo.length fs.tc 3 1 (fs.todo.map zn) :: fs.sls.map swRow)) (fun ⟨A19, b6⟩ => A19.isSome = true) ?_ ?_
  ·
    rintro ⟨A19, b6⟩ hA19
    refine AWP.two (i := 15) (j := 17) (by kernel_rfl) rfl rfl ?_ ?_ 
    ·
      refine Y1 (Yv.loadEp rfl ag_101 (i := 4) rfl (E rfl rfl) (fun hg => sw_cell hkl)) ?_
      refine nl ?_
      exact AWP.to (nd111111111111111100100 (A19, b6) hA19) (by kernel_rfl) rfl (Sub.cons rfl rfl (Sub.cons rfl rfl (Sub.cons rfl rfl (Sub.cons rfl rfl (Sub.cons rfl rfl (Sub.cons rfl rfl Sub.nil))))))
    ·
      refine AWL.allocOp rfl rfl (B rfl) rfl zc_58 (fun b5 => ?_)
      refine AWL.perm (perm_ins (α := Ent) (F := [.row A19 0 0 39 1 []]) (G := (.box b6 101 (([.slice none 0 0]).map T.v) :: .map m (lmT (whL f.code)) :: .box bw 100 (flCells f m aA n fs) :: .row aA n n 101 1 (fs.sls.map swCell) :: .row fs.tA fs.todo.length fs.tc 3 1 (fs.todo.map zn) :: fs.sls.map swRow)) (x := .box b5 58 (([.int .i64 0, .int .i64 0, .int .i64 0, .int .i64 0, .int .i64 0, .int .i64 0, .int .i64 0, .int .i64 0, .int .i64 0, .int .i64 0, .slice none 0 0]).map T.v))) ?_
      refine nl ?_
      exact AWP.to (nd111111111111111001100 (A19, b5, b6) hA19) (by kernel_rfl) rfl (Sub.cons rfl rfl (Sub.cons rfl rfl (Sub.cons rfl rfl (Sub.cons rfl rfl (Sub.cons rfl rfl (Sub.cons rfl rfl (Sub.cons rfl rfl Sub.nil)))))))
  intro nd111111111111111000100
  refine AWP.node (ι := Nat) 5 #[true, true, true, true, true, true, true, true, false, true, true, true, true, true, true, true, false, true, false, false, false] (fun b5 => [(18, true, .agg (insCells (f.code.getD k default))), (26, true, swCell (fs.sls.getD k default)), (5, true, .v (.pointer (some ⟨b5, 0, none⟩))), (0, true, .v (.pointer (some ⟨bw, 0, none⟩))), (1, true, zn k)]) (fun b5 => (.box b5 58 (([.int .i64 0, .int .i64 0, .int .i64 0, .int .i64 0, .int .i64 0, .int .i64 0, .int .i64 0, .int .i64 0, .int .i64 0, .int .i64 0, .slice none 0 0]).map T.v) :: .map m (lmT (whL f.code)) :: .box bw 100 (flCells f m aA n fs) :: .row aA n n 101 1 (fs.sls.map swCell) :: .row fs.tA fs.todo.length fs.tc 3 1 (fs.todo.map zn) :: fs.sls.map swRow)) (fun b5 => True) ?_ ?_
  ·
    rintro b5 _
    refine AWP.two (i := 8) (j := 18) (by kernel_rfl) rfl rfl ?_ ?_ 
    ·
      refine AWL.buildSliceRowS rfl rfl (B rfl) rfl el_101 (B rfl) rfl evs0 (Nat.le_of_ble_eq_true rfl) rfl rfl (fun A19 hA19 => ?_)
      refine AWL.perm (perm_ins (α := Ent) (F := []) (G := (.box b5 58 (([.int .i64 0, .int .i64 0, .int .i64 0, .int .i64 0, .int .i64 0, .int .i64 0, .int .i64 0, .int .i64 0, .int .i64 0, .int .i64 0, .slice none 0 0]).map T.v) :: .map m (lmT (whL f.code)) :: .box bw 100 (flCells f m aA n fs) :: .row aA n n 101 1 (fs.sls.map swCell) :: .row fs.tA fs.todo.length fs.tc 3 1 (fs.todo.map zn) :: fs.sls.map swRow)) (x := .row A19 0 0 39 1 [])) ?_
      refine nl ?_
      exact AWP.to (nd111111111111111101000 (A19, b5) hA19) (by kernel_rfl) rfl (Sub.cons rfl rfl (Sub.cons rfl rfl (Sub.cons rfl rfl (Sub.cons rfl rfl (Sub.cons rfl rfl (Sub.cons rfl rfl Sub.nil))))))
    ·
      refine AWL.allocOp rfl rfl (B rfl) rfl zc_101 (fun b6 => ?_)
      refine AWL.perm (perm_ins (α := Ent) (F := [.box b5 58 (([.int .i64 0, .int .i64 0, .int .i64 0, .int .i64 0, .int .i64 0, .int .i64 0, .int .i64 0, .int .i64 0, .int .i64 0, .int .i64 0, .slice none 0 0]).map T.v)]) (G := (.map m (lmT (whL f.code)) :: .box bw 100 (flCells f m aA n fs) :: .row aA n n 101 1 (fs.sls.map swCell) :: .row fs.tA fs.todo.length fs.tc 3 1 (fs.todo.map zn) :: fs.sls.map swRow)) (x := .box b6 101 (([.slice none 0 0]).map T.v))) ?_
      refine nl ?_
      exact AWP.to (nd111111110111111101100 (b5, b6) trivial) (by kernel_rfl) rfl (Sub.cons rfl rfl (Sub.cons rfl rfl (Sub.cons rfl rfl (Sub.cons rfl rfl (Sub.cons rfl rfl (Sub.cons rfl rfl Sub.nil))))))
  intro nd111111110111111101000
  refine AWP.node (ι := Nat) 5 #[true, true, true, true, true, true, true, true, false, true, true, true, true, true, true, true, false, false, true, false, false] (fun b6 => [(18, true, .agg (insCells (f.code.getD k default))), (26, true, swCell (fs.sls.getD k default)), (6, true, .v (.pointer (some ⟨b6, 0, none⟩))), (0, true, .v (.pointer (some ⟨bw, 0, none⟩))), (1, true, zn k)]) (fun b6 => (.box b6 101 (([.slice none 0 0]).map T.v) :: .map m (lmT (whL f.code)) :: .box bw 100 (flCells f m aA n fs) :: .row aA n n 101 1 (fs.sls.map swCell) :: .row fs.tA fs.todo.length fs.tc 3 1 (fs.todo.map zn) :: fs.sls.map swRow)) (fun b6 => True) ?_ ?_
  ·
    rintro b6 _
    refine AWP.two (i := 8) (j := 17) (by kernel_rfl) rfl rfl ?_ ?_ 
    ·
      refine AWL.buildSliceRowS rfl rfl (B rfl) rfl el_101 (B rfl) rfl evs0 (Nat.le_of_ble_eq_true rfl) rfl rfl (fun A19 hA19 => ?_)
      refine AWL.perm (perm_ins (α := Ent) (F := []) (G := (.box b6 101 (([.slice none 0 0]).map T.v) :: .map m (lmT (whL f.code)) :: .box bw 100 (flCells f m aA n fs) :: .row aA n n 101 1 (fs.sls.map swCell) :: .row fs.tA fs.todo.length fs.tc 3 1 (fs.todo.map zn) :: fs.sls.map swRow)) (x := .row A19 0 0 39 1 [])) ?_
      refine nl ?_
      exact AWP.to (nd111111111111111100100 (A19, b6) hA19) (by kernel_rfl) rfl (Sub.cons rfl rfl (Sub.cons rfl rfl (Sub.cons rfl rfl (Sub.cons rfl rfl (Sub.cons rfl rfl (Sub.cons rfl rfl Sub.nil))))))
    ·
      refine AWL.allocOp rfl rfl (B rfl) rfl zc_58 (fun b5 => ?_)
      refine AWL.perm (perm_ins (α := Ent) (F := []) (G := (.box b6 101 (([.slice none 0 0]).map T.v) :: .map m (lmT (whL f.code)) :: .box bw 100 (flCells f m aA n fs) :: .row aA n n 101 1 (fs.sls.map swCell) :: .row fs.tA fs.todo.length fs.tc 3 1 (fs.todo.map zn) :: fs.sls.map swRow)) (x := .box b5 58 (([.int .i64 0, .int .i64 0, .int .i64 0, .int .i64 0, .int .i64 0, .int .i64 0, .int .i64 0, .int .i64 0, .int .i64 0, .int .i64 0, .slice none 0 0]).map T.v))) ?_
      refine nl ?_
      exact AWP.to (nd111111110111111101100 (b5, b6) trivial) (by kernel_rfl) rfl (Sub.cons rfl rfl (Sub.cons rfl rfl (Sub.cons rfl rfl (Sub.cons rfl rfl (Sub.cons rfl rfl (Sub.cons rfl rfl Sub.nil))))))
  intro nd111111110111111100100
  refine AWP.node (ι := Nat × Nat) 5 #[true, true, true, true, true, true, true, true, false, true, true, true, true, true, true, false, false, true, true, false, false] (fun ⟨b5, b6⟩ => [(18, true, .agg (insCells (f.code.getD k default))), (25, true, .ep (.slice aA n n) (k * 1)), (5, true, .v (.pointer (some ⟨b5, 0, none⟩))), (6, true, .v (.pointer (some ⟨b6, 0, none⟩))), (0, true, .v (.pointer (some ⟨bw, 0, none⟩))), (1, true, zn k)]) (fun ⟨b5, b6⟩ => (.box b5 58 (([.int .i64 0, .int .i64 0, .int .i64 0, .int .i64 0, .int .i64 0, .int .i64 0, .int .i64 0, .int .i64 0, .int .i64 0, .int .i64 0, .slice none 0 0]).map T.v) :: .box b6 101 (([.slice none 0 0]).map T.v) :: .map m (lmT (whL f.code)) :: .box bw 100 (flCells f m aA n fs) :: .row aA n n 101 1 (fs.sls.map swCell) :: .row fs.tA fs.todo.length fs.tc 3 1 (fs.todo.map zn) :: fs.sls.map swRow)) (fun ⟨b5, b6⟩ => True) ?_ ?_
  ·
    rintro ⟨b5, b6⟩ _
    refine AWP.two (i := 8) (j := 15) (by kernel_rfl) rfl rfl ?_ ?_ 
    ·
      refine AWL.buildSliceRowS rfl rfl (B rfl) rfl el_101 (B rfl) rfl evs0 (Nat.le_of_ble_eq_true rfl) rfl rfl (fun A19 hA19 => ?_)
      refine AWL.perm (perm_ins (α := Ent) (F := []) (G := (.box b5 58 (([.int .i64 0, .int .i64 0, .int .i64 0, .int .i64 0, .int .i64 0, .int .i64 0, .int .i64 0, .int .i64 0, .int .i64 0, .int .i64 0, .slice none 0 0]).map T.v) :: .box b6 101 (([.slice none 0 0]).map T.v) :: .map m (lmT (whL f.code)) :: .box bw 100 (flCells f m aA n fs) :: .row aA n n 101 1 (fs.sls.map swCell) :: .row fs.tA fs.todo.length fs.tc 3 1 (fs.todo.map zn) :: fs.sls.map swRow)) (x := .row A19 0 0 39 1 [])) ?_
      refine nl ?_
      exact AWP.to (nd111111111111111001100 (A19, b5, b6) hA19) (by kernel_rfl) rfl (Sub.cons rfl rfl (Sub.cons rfl rfl (Sub.cons rfl rfl (Sub.cons rfl rfl (Sub.cons rfl rfl (Sub.cons rfl rfl (Sub.cons rfl rfl Sub.nil)))))))
    ·
      refine Y1 (Yv.loadEp rfl ag_101 (i := 4) rfl (E rfl rfl) (fun hg => sw_cell hkl)) ?_
      refine nl ?_
      exact AWP.to (nd111111110111111101100 (b5, b6) trivial) (by kernel_rfl) rfl (Sub.cons rfl rfl (Sub.cons rfl rfl (Sub.cons rfl rfl (Sub.cons rfl rfl (Sub.cons rfl rfl (Sub.cons rfl rfl Sub.nil))))))
  intro nd111111110111111001100
  refine AWP.node (ι := Option Addr × Option Addr × Nat) 5 #[true, true, true, true, true, true, true, false, true, true, true, true, true, true, true, true, true, false, false, false, false] (fun ⟨A19, A27, c27⟩ => [(17, true, .rp (f.code.flatMap insCells) (k * 11)), (27, true, .v (.slice A27 (fs.sls.getD k default).ws.length c27)), (0, true, .v (.pointer (some ⟨bw, 0, none⟩))), (1, true, zn k)]) (fun ⟨A19, A27, c27⟩ => (.row A27 (fs.sls.getD k default).ws.length c27 39 1 (((fs.sls.getD k default).ws).map zw) :: .map m (lmT (whL f.code)) :: .box bw 100 (flCells f m aA n fs) :: .row aA n n 101 1 (fs.sls.map swCell) :: .row fs.tA fs.todo.length fs.tc 3 1 (fs.todo.map zn) :: fs.sls.map swRow)) (fun ⟨A19, A27, c27⟩ => A19.isSome = true ∧ A27.isSome = true) ?_ ?_
  ·
    rintro ⟨A19, A27, c27⟩ ⟨hA19, hA27⟩
    refine AWP.three (i := 7) (j := 17) (k := 18) (by kernel_rfl) rfl rfl rfl ?_ ?_ ?_ 
    ·
      refine Y1 (Yv.loadRpA rfl ag_58 (E rfl rfl) (fun hg => ins_cells hkc)) ?_
      refine nl ?_
      exact AWP.to (nd111111111111111110000 (A19, A27, c27) ⟨hA19, hA27⟩) (by kernel_rfl) rfl (Sub.cons rfl rfl (Sub.cons rfl rfl (Sub.cons rfl rfl (Sub.cons rfl rfl Sub.nil))))
    ·
      refine AWL.allocOp rfl rfl (B rfl) rfl zc_58 (fun b5 => ?_)
      refine AWL.perm (perm_ins (α := Ent) (F := [.row A27 (fs.sls.getD k default).ws.length c27 39 1 (((fs.sls.getD k default).ws).map zw)]) (G := (.map m (lmT (whL f.code)) :: .box bw 100 (flCells f m aA n fs) :: .row aA n n 101 1 (fs.sls.map swCell) :: .row fs.tA fs.todo.length fs.tc 3 1 (fs.todo.map zn) :: fs.sls.map swRow)) (x := .box b5 58 (([.int .i64 0, .int .i64 0, .int .i64 0, .int .i64 0, .int .i64 0, .int .i64 0, .int .i64 0, .int .i64 0, .int .i64 0, .int .i64 0, .slice none 0 0]).map T.v))) ?_
      refine nl ?_
      exact AWP.to (nd111111101111111111000 (A19, A27, c27, b5) ⟨hA19, hA27⟩) (by kernel_rfl) rfl (Sub.cons rfl rfl (Sub.cons rfl rfl (Sub.cons rfl rfl (Sub.cons rfl rfl (Sub.cons rfl rfl Sub.nil)))))
    ·
      refine AWL.allocOp rfl rfl (B rfl) rfl zc_101 (fun b6 => ?_)
      refine AWL.perm (perm_ins (α := Ent) (F := [.row A27 (fs.sls.getD k default).ws.length c27 39 1 (((fs.sls.getD k default).ws).map zw)]) (G := (.map m (lmT (whL f.code)) :: .box bw 100 (flCells f m aA n fs) :: .row aA n n 101 1 (fs.sls.map swCell) :: .row fs.tA fs.todo.length fs.tc 3 1 (fs.todo.map zn) :: fs.sls.map swRow)) (x := .box b6 101 (([.slice none 0 0]).map T.v))) ?_
      refine nl ?_
      exact AWP.to (nd111111101111111110100 (A19, A27, c27, b6) ⟨hA19, hA27⟩) (by kernel_rfl) rfl (Sub.cons rfl rfl (Sub.cons rfl rfl (Sub.cons rfl rfl (Sub.cons rfl rfl (Sub.cons rfl rfl Sub.nil)))))
  intro nd111111101111111110000
  refine AWP.node (ι := Option Addr × Nat) 5 #[true, true, true, true, true, true, true, false, true, true, true, true, true, true, true, true, false, true, false, false, false] (fun ⟨A19, b5⟩ => [(17, true, .rp (f.code.flatMap insCells) (k * 11)), (19, true, .v (.slice A19 0 0)), (26, true, swCell (fs.sls.getD k default)), (5, true, .v (.pointer (some ⟨b5, 0, none⟩))), (0, true, .v (.pointer (some ⟨bw, 0, none⟩))), (1, true, zn k)]) (fun ⟨A19, b5⟩ => (.row A19 0 0 39 1 [] :: .box b5 58 (([.int .i64 0, .int .i64 0, .int .i64 0, .int .i64 0, .int .i64 0, .int .i64 0, .int .i64 0, .int .i64 0, .int .i64 0, .int .i64 0, .slice none 0 0]).map T.v) :: .map m (lmT (whL f.code)) :: .box bw 100 (flCells f m aA n fs) :: .row aA n n 101 1 (fs.sls.map swCell) :: .row fs.tA fs.todo.length fs.tc 3 1 (fs.todo.map zn) :: fs.sls.map swRow)) (fun ⟨A19, b5⟩ => A19.isSome = true) ?_ ?_
  ·
    rintro ⟨A19, b5⟩ hA19
    refine AWP.three (i := 7) (j := 16) (k := 18) (by kernel_rfl) rfl rfl rfl ?_ ?_ ?_ 
    ·
      refine Y1 (Yv.loadRpA rfl ag_58 (E rfl rfl) (fun hg => ins_cells hkc)) ?_
      refine nl ?_
      exact AWP.to (nd111111111111111101000 (A19, b5) hA19) (by kernel_rfl) rfl (Sub.cons rfl rfl (Sub.cons rfl rfl (Sub.cons rfl rfl (Sub.cons rfl rfl (Sub.cons rfl rfl (Sub.cons rfl rfl Sub.nil))))))
    ·
      refine AWL.appendRowS (i := 0) rfl rfl (B rfl) rfl el_101 (B rfl) rfl (E rfl rfl) (SrcT.row so_101 (i := k + 6) (sw_row hkl) (E rfl rfl)) (by unfold maxLen; omega) (by omega) hA19 (fun A27 c27 hA27 => ?_)
      rw [Nat.zero_add]
      refine nl ?_
      exact AWP.to (nd111111101111111111000 (A19, A27, c27, b5) ⟨hA19, hA27⟩) (by kernel_rfl) rfl (Sub.cons rfl rfl (Sub.cons rfl rfl (Sub.cons rfl rfl (Sub.cons rfl rfl (Sub.cons rfl rfl Sub.nil)))))
    ·
      refine AWL.allocOp rfl rfl (B rfl) rfl zc_101 (fun b6 => ?_)
      refine AWL.perm (perm_ins (α := Ent) (F := [.row A19 0 0 39 1 [], .box b5 58 (([.int .i64 0, .int .i64 0, .int .i64 0, .int .i64 0, .int .i64 0, .int .i64 0, .int .i64 0, .int .i64 0, .int .i64 0, .int .i64 0, .slice none 0 0]).map T.v)]) (G := (.map m (lmT (whL f.code)) :: .box bw 100 (flCells f m aA n fs) :: .row aA n n 101 1 (fs.sls.map swCell) :: .row fs.tA fs.todo.length fs.tc 3 1 (fs.todo.map zn) :: fs.sls.map swRow)) (x := .box b6 101 (([.slice none 0 0]).map T.v))) ?_
      refine nl ?_
      exact AWP.to (nd111111101111111101100 (A19, b5, b6) hA19) (by kernel_rfl) rfl (Sub.cons rfl rfl (Sub.cons rfl rfl (Sub.cons rfl rfl (Sub.cons rfl rfl (Sub.cons rfl rfl (Sub.cons rfl rfl (Sub.cons rfl rfl Sub.nil)))))))
  intro nd111111101111111101000
  refine AWP.node (ι := Option Addr × Nat) 5 #[true, true, true, true, true, true, true, false, true, true, true, true, true, true, true, true, false, false, true, false, false] (fun ⟨A19, b6⟩ => [(17, true, .rp (f.code.flatMap insCells) (k * 11)), (19, true, .v (.slice A19 0 0)), (26, true, swCell (fs.sls.getD k default)), (6, true, .v (.pointer (some ⟨b6, 0, none⟩))), (0, true, .v (.pointer (some ⟨bw, 0, none⟩))), (1, true, zn k)]) (fun ⟨A19, b6⟩ => (.row A19 0 0 39 1 [] :: .box b6 101 (([.slice none 0 0]).map T.v) :: .map m (lmT (whL f.code)) :: .box bw 100 (flCells f m aA n fs) :: .row aA n n 101 1 (fs.sls.map swCell) :: .row fs.tA fs.todo.length fs.tc 3 1 (fs.todo.map zn) :: fs.sls.map swRow)) (fun ⟨A19, b6⟩ => A19.isSome = true) ?_ ?_
  ·
    rintro ⟨A19, b6⟩ hA19
    refine AWP.three (i := 7) (j := 16) (k := 17) (by kernel_rfl) rfl rfl rfl ?_ ?_ ?_ 
    ·
      refine Y1 (Yv.loadRpA rfl ag_58 (E rfl rfl) (fun hg => ins_cells hkc)) ?_
      refine nl ?_
      exact AWP.to (nd111111111111111100100 (A19, b6) hA19) (by kernel_rfl) rfl (Sub.cons rfl rfl (Sub.cons rfl rfl (Sub.cons rfl rfl (Sub.cons rfl rfl (Sub.cons rfl rfl (Sub.cons rfl rfl Sub.nil))))))
    ·
      refine AWL.appendRowS (i := 0) rfl rfl (B rfl) rfl el_101 (B rfl) rfl (E rfl rfl) (SrcT.row so_101 (i := k + 6) (sw_row hkl) (E rfl rfl)) (by unfold maxLen; omega) (by omega) hA19 (fun A27 c27 hA27 => ?_)
      rw [Nat.zero_add]
      refine nl ?_
      exact AWP.to (nd111111101111111110100 (A19, A27, c27, b6) ⟨hA19, hA27⟩) (by kernel_rfl) rfl (Sub.cons rfl rfl (Sub.cons rfl rfl (Sub.cons rfl rfl (Sub.cons rfl rfl (Sub.cons rfl rfl Sub.nil)))))
    ·
      refine AWL.allocOp rfl rfl (B rfl) rfl zc_58 (fun b5 => ?_)
      refine AWL.perm (perm_ins (α := Ent) (F := [.row A19 0 0 39 1 []]) (G := (.box b6 101 (([.slice none 0 0]).map T.v) :: .map m (lmT (whL f.code)) :: .box bw 100 (flCells f m aA n fs) :: .row aA n n 101 1 (fs.sls.map swCell) :: .row fs.tA fs.todo.length fs.tc 3 1 (fs.todo.map zn) :: fs.sls.map swRow)) (x := .box b5 58 (([.int .i64 0, .int .i64 0, .int .i64 0, .int .i64 0, .int .i64 0, .int .i64 0, .int .i64 0, .int .i64 0, .int .i64 0, .int .i64 0, .slice none 0 0]).map T.v))) ?_
      refine nl ?_
      exact AWP.to (nd111111101111111101100 (A19, b5, b6) hA19) (by kernel_rfl) rfl (Sub.cons rfl rfl (Sub.cons rfl rfl (Sub.cons rfl rfl (Sub.cons rfl rfl (Sub.cons rfl rfl (Sub.cons rfl rfl (Sub.cons rfl rfl Sub.nil)))))))
  intro nd111111101111111100100
  refine AWP.node (ι := Option Addr × Nat × Nat) 5 #[true, true, true, true, true, true, true, false, true, true, true, true, true, true, true, false, false, true, true, false, false] (fun ⟨A19, b5, b6⟩ => [(17, true, .rp (f.code.flatMap insCells) (k * 11)), (19, true, .v (.slice A19 0 0)), (25, true, .ep (.slice aA n n) (k * 1)), (5, true, .v (.pointer (some ⟨b5, 0, none⟩))), (6, true, .v (.pointer (some ⟨b6, 0, none⟩))), (0, true, .v (.pointer (some ⟨bw, 0, none⟩))), (1, true, zn k)]) (fun ⟨A19, b5, b6⟩ => (.row A19 0 0 39 1 [] :: .box b5 58 (([.int .i64 0, .int .i64 0, .int .i64 0, .int .i64 0, .int .i64 0, .int .i64 0, .int .i64 0, .int .i64 0, .int .i64 0, .int .i64 0, .slice none 0 0]).map T.v) :: .box b6 101 (([.slice none 0 0]).map T.v) :: .map m (lmT (whL f.code)) :: .box bw 100 (flCells f m aA n fs) :: .row aA n n 101 1 (fs.sls.map swCell) :: .row fs.tA fs.todo.length fs.tc 3 1 (fs.todo.map zn) :: fs.sls.map swRow)) (fun ⟨A19, b5, b6⟩ => A19.isSome = true) ?_ ?_
  ·
    rintro ⟨A19, b5, b6⟩ hA19
    refine AWP.two (i := 7) (j := 15) (by kernel_rfl) rfl rfl ?_ ?_ 
    ·
      refine Y1 (Yv.loadRpA rfl ag_58 (E rfl rfl) (fun hg => ins_cells hkc)) ?_
      refine nl ?_
      exact AWP.to (nd111111111111111001100 (A19, b5, b6) hA19) (by kernel_rfl) rfl (Sub.cons rfl rfl (Sub.cons rfl rfl (Sub.cons rfl rfl (Sub.cons rfl rfl (Sub.cons rfl rfl (Sub.cons rfl rfl (Sub.cons rfl rfl Sub.nil)))))))
    ·
      refine Y1 (Yv.loadEp rfl ag_101 (i := 5) rfl (E rfl rfl) (fun hg => sw_cell hkl)) ?_
      refine nl ?_
      exact AWP.to (nd111111101111111101100 (A19, b5, b6) hA19) (by kernel_rfl) rfl (Sub.cons rfl rfl (Sub.cons rfl rfl (Sub.cons rfl rfl (Sub.cons rfl rfl (Sub.cons rfl rfl (Sub.cons rfl rfl (Sub.cons rfl rfl Sub.nil)))))))
  intro nd111111101111111001100
  refine AWP.node (ι := Nat × Nat) 5 #[true, true, true, true, true, true, true, false, false, true, true, true, true, true, true, true, false, true, true, false, false] (fun ⟨b5, b6⟩ => [(17, true, .rp (f.code.flatMap insCells) (k * 11)), (26, true, swCell (fs.sls.getD k default)), (5, true, .v (.pointer (some ⟨b5, 0, none⟩))), (6, true, .v (.pointer (some ⟨b6, 0, none⟩))), (0, true, .v (.pointer (some ⟨bw, 0, none⟩))), (1, true, zn k)]) (fun ⟨b5, b6⟩ => (.box b5 58 (([.int .i64 0, .int .i64 0, .int .i64 0, .int .i64 0, .int .i64 0, .int .i64 0, .int .i64 0, .int .i64 0, .int .i64 0, .int .i64 0, .slice none 0 0]).map T.v) :: .box b6 101 (([.slice none 0 0]).map T.v) :: .map m (lmT (whL f.code)) :: .box bw 100 (flCells f m aA n fs) :: .row aA n n 101 1 (fs.sls.map swCell) :: .row fs.tA fs.todo.length fs.tc 3 1 (fs.todo.map zn) :: fs.sls.map swRow)) (fun ⟨b5, b6⟩ => True) ?_ ?_
  ·
    rintro ⟨b5, b6⟩ _
    refine AWP.two (i := 7) (j := 8) (by kernel_rfl) rfl rfl ?_ ?_ 
    ·
      refine Y1 (Yv.loadRpA rfl ag_58 (E rfl rfl) (fun hg => ins_cells hkc)) ?_
      refine nl ?_
      exact AWP.to (nd111111110111111101100 (b5, b6) trivial) (by kernel_rfl) rfl (Sub.cons rfl rfl (Sub.cons rfl rfl (Sub.cons rfl rfl (Sub.cons rfl rfl (Sub.cons rfl rfl (Sub.cons rfl rfl Sub.nil))))))
    ·
      refine AWL.buildSliceRowS rfl rfl (B rfl) rfl el_101 (B rfl) rfl evs0 (Nat.le_of_ble_eq_true rfl) rfl rfl (fun A19 hA19 => ?_)
      refine AWL.perm (perm_ins (α := Ent) (F := []) (G := (.box b5 58 (([.int .i64 0, .int .i64 0, .int .i64 0, .int .i64 0, .int .i64 0, .int .i64 0, .int .i64 0, .int .i64 0, .int .i64 0, .int .i64 0, .slice none 0 0]).map T.v) :: .box b6 101 (([.slice none 0 0]).map T.v) :: .map m (lmT (whL f.code)) :: .box bw 100 (flCells f m aA n fs) :: .row aA n n 101 1 (fs.sls.map swCell) :: .row fs.tA fs.todo.length fs.tc 3 1 (fs.todo.map zn) :: fs.sls.map swRow)) (x := .row A19 0 0 39 1 [])) ?_
      refine nl ?_
      exact AWP.to (nd111111101111111101100 (A19, b5, b6) hA19) (by kernel_rfl) rfl (Sub.cons rfl rfl (Sub.cons rfl rfl (Sub.cons rfl rfl (Sub.cons rfl rfl (Sub.cons rfl rfl (Sub.cons rfl rfl (Sub.cons rfl rfl Sub.nil)))))))
  intro nd111111100111111101100
  refine AWP.node (ι := Option Addr × Option Addr × Nat × Nat × Nat) 5 #[true, true, true, true, false, true, false, false, true, true, true, true, true, true, true, true, true, true, true, false, false] (fun ⟨A19, A27, c27, b5, b6⟩ => [(14, true, .v (.pointer (some ⟨bw, 0 + 0 + 4, none⟩))), (16, true, zn k), (27, true, .v (.slice A27 (fs.sls.getD k default).ws.length c27)), (5, true, .v (.pointer (some ⟨b5, 0, none⟩))), (6, true, .v (.pointer (some ⟨b6, 0, none⟩))), (0, true, .v (.pointer (some ⟨bw, 0, none⟩))), (1, true, zn k)]) (fun ⟨A19, A27, c27, b5, b6⟩ => (.row A27 (fs.sls.getD k default).ws.length c27 39 1 (((fs.sls.getD k default).ws).map zw) :: .box b5 58 (([.int .i64 0, .int .i64 0, .int .i64 0, .int .i64 0, .int .i64 0, .int .i64 0, .int .i64 0, .int .i64 0, .int .i64 0, .int .i64 0, .slice none 0 0]).map T.v) :: .box b6 101 (([.slice none 0 0]).map T.v) :: .map m (lmT (whL f.code)) :: .box bw 100 (flCells f m aA n fs) :: .row aA n n 101 1 (fs.sls.map swCell) :: .row fs.tA fs.todo.length fs.tc 3 1 (fs.todo.map zn) :: fs.sls.map swRow)) (fun ⟨A19, A27, c27, b5, b6⟩ => A19.isSome = true ∧ A27.isSome = true) ?_ ?_
  ·
    rintro ⟨A19, A27, c27, b5, b6⟩ ⟨hA19, hA27⟩
    refine AWP.one (i := 4) (by kernel_rfl) rfl ?_ 
    ·
      refine Y1 (Yv.loadBox rfl ag_49 (i := 4) rfl (E rfl rfl) rfl) ?_
      refine nl ?_
      refine AWP.take (i := 6) rfl (by kernel_rfl) (by kernel_rfl) (by kernel_rfl) rfl rfl (B rfl) (freeIdxSl (j := k) rfl ss_49 (by decide) (E rfl rfl) (E rfl rfl) ⟨rfl, by rw [len_code]; omega⟩) ?_
      exact AWP.to (nd111111101111111111100 (A19, A27, c27, b5, b6) ⟨hA19, hA27⟩) (by kernel_rfl) rfl (Sub.cons rfl rfl (Sub.cons rfl rfl (Sub.cons rfl rfl (Sub.cons rfl rfl (Sub.cons rfl rfl (Sub.cons rfl rfl Sub.nil))))))
  intro nd111101001111111111100
  refine AWP.node (ι := Option Addr) 6 #[true, true, true, true, true, true, true, true, true, true, true, true, true, true, true, false, false, false, false, false, false] (fun A19 => [(18, true, .agg (insCells (f.code.getD k default))), (19, true, .v (.slice A19 0 0)), (25, true, .ep (.slice aA n n) (k * 1)), (0, true, .v (.pointer (some ⟨bw, 0, none⟩))), (1, true, zn k)]) (fun A19 => (.row A19 0 0 39 1 [] :: .map m (lmT (whL f.code)) :: .box bw 100 (flCells f m aA n fs) :: .row aA n n 101 1 (fs.sls.map swCell) :: .row fs.tA fs.todo.length fs.tc 3 1 (fs.todo.map zn) :: fs.sls.map swRow)) (fun A19 => A19.isSome = true) ?_ ?_
  ·
    rintro A19 hA19
    refine AWP.three (i := 15) (j := 17) (k := 18) (by kernel_rfl) rfl rfl rfl ?_ ?_ ?_ 
    ·
      refine Y1 (Yv.loadEp rfl ag_101 (i := 3) rfl (E rfl rfl) (fun hg => sw_cell hkl)) ?_
      refine nl ?_
      exact AWP.to (nd111111111111111100000 A19 hA19) (by kernel_rfl) rfl (Sub.cons rfl rfl (Sub.cons rfl rfl (Sub.cons rfl rfl (Sub.cons rfl rfl (Sub.cons rfl rfl Sub.nil)))))
    ·
      refine AWL.allocOp rfl rfl (B rfl) rfl zc_58 (fun b5 => ?_)
      refine AWL.perm (perm_ins (α := Ent) (F := [.row A19 0 0 39 1 []]) (G := (.map m (lmT (whL f.code)) :: .box bw 100 (flCells f m aA n fs) :: .row aA n n 101 1 (fs.sls.map swCell) :: .row fs.tA fs.todo.length fs.tc 3 1 (fs.todo.map zn) :: fs.sls.map swRow)) (x := .box b5 58 (([.int .i64 0, .int .i64 0, .int .i64 0, .int .i64 0, .int .i64 0, .int .i64 0, .int .i64 0, .int .i64 0, .int .i64 0, .int .i64 0, .slice none 0 0]).map T.v))) ?_
      refine nl ?_
      exact AWP.to (nd111111111111111001000 (A19, b5) hA19) (by kernel_rfl) rfl (Sub.cons rfl rfl (Sub.cons rfl rfl (Sub.cons rfl rfl (Sub.cons rfl rfl (Sub.cons rfl rfl (Sub.cons rfl rfl Sub.nil))))))
    ·
      refine AWL.allocOp rfl rfl (B rfl) rfl zc_101 (fun b6 => ?_)
      refine AWL.perm (perm_ins (α := Ent) (F := [.row A19 0 0 39 1 []]) (G := (.map m (lmT (whL f.code)) :: .box bw 100 (flCells f m aA n fs) :: .row aA n n 101 1 (fs.sls.map swCell) :: .row fs.tA fs.todo.length fs.tc 3 1 (fs.todo.map zn) :: fs.sls.map swRow)) (x := .box b6 101 (([.slice none 0 0]).map T.v))) ?_
      refine nl ?_
      exact AWP.to (nd111111111111111000100 (A19, b6) hA19) (by kernel_rfl) rfl (Sub.cons rfl rfl (Sub.cons rfl rfl (Sub.cons rfl rfl (Sub.cons rfl rfl (Sub.cons rfl rfl (Sub.cons rfl rfl Sub.nil))))))
  intro nd111111111111111000000
  refine AWP.node (ι := Option Addr × Nat × Nat) 6 #[true, true, true, true, true, true, true, true, true, true, true, true, false, true, false, false, false, true, true, false, false] (fun ⟨A19, b5, b6⟩ => [(18, true, .agg (insCells (f.code.getD k default))), (19, true, .v (.slice A19 0 0)), (22, true, .v (.pointer (some ⟨bw, 0 + 6, none⟩))), (24, true, zn k), (5, true, .v (.pointer (some ⟨b5, 0, none⟩))), (6, true, .v (.pointer (some ⟨b6, 0, none⟩))), (0, true, .v (.pointer (some ⟨bw, 0, none⟩))), (1, true, zn k)]) (fun ⟨A19, b5, b6⟩ => (.row A19 0 0 39 1 [] :: .box b5 58 (([.int .i64 0, .int .i64 0, .int .i64 0, .int .i64 0, .int .i64 0, .int .i64 0, .int .i64 0, .int .i64 0, .int .i64 0, .int .i64 0, .slice none 0 0]).map T.v) :: .box b6 101 (([.slice none 0 0]).map T.v) :: .map m (lmT (whL f.code)) :: .box bw 100 (flCells f m aA n fs) :: .row aA n n 101 1 (fs.sls.map swCell) :: .row fs.tA fs.todo.length fs.tc 3 1 (fs.todo.map zn) :: fs.sls.map swRow)) (fun ⟨A19, b5, b6⟩ => A19.isSome = true) ?_ ?_
  ·
    rintro ⟨A19, b5, b6⟩ hA19
    refine AWP.one (i := 12) (by kernel_rfl) rfl ?_ 
    ·
      refine Y1 (Yv.loadBox rfl ag_98 (i := 4) rfl (E rfl rfl) rfl) ?_
      refine nl ?_
      refine AWP.take (i := 14) rfl (by kernel_rfl) (by kernel_rfl) (by kernel_rfl) rfl rfl (B rfl) (freeIdxRow (i := 5) rfl ss_98 rfl (E rfl rfl) (E rfl rfl) ⟨rfl, by omega⟩) ?_
      exact AWP.to (nd111111111111111001100 (A19, b5, b6) hA19) (by kernel_rfl) rfl (Sub.cons rfl rfl (Sub.cons rfl rfl (Sub.cons rfl rfl (Sub.cons rfl rfl (Sub.cons rfl rfl (Sub.cons rfl rfl (Sub.cons rfl rfl Sub.nil)))))))
  intro nd111111111111010001100
  refine AWP.node (ι := Unit) 6 #[true, true, true, true, true, true, true, true, false, true, true, true, true, true, true, true, false, false, false, false, false] (fun _ => [(18, true, .agg (insCells (f.code.getD k default))), (26, true, swCell (fs.sls.getD k default)), (0, true, .v (.pointer (some ⟨bw, 0, none⟩))), (1, true, zn k)]) (fun _ => (.map m (lmT (whL f.code)) :: .box bw 100 (flCells f m aA n fs) :: .row aA n n 101 1 (fs.sls.map swCell) :: .row fs.tA fs.todo.length fs.tc 3 1 (fs.todo.map zn) :: fs.sls.map swRow)) (fun _ => True) ?_ ?_
  ·
    rintro _ _
    refine AWP.three (i := 8) (j := 17) (k := 18) (by kernel_rfl) rfl rfl rfl ?_ ?_ ?_ 
    ·
      refine AWL.buildSliceRowS rfl rfl (B rfl) rfl el_101 (B rfl) rfl evs0 (Nat.le_of_ble_eq_true rfl) rfl rfl (fun A19 hA19 => ?_)
      refine AWL.perm (perm_ins (α := Ent) (F := []) (G := (.map m (lmT (whL f.code)) :: .box bw 100 (flCells f m aA n fs) :: .row aA n n 101 1 (fs.sls.map swCell) :: .row fs.tA fs.todo.length fs.tc 3 1 (fs.todo.map zn) :: fs.sls.map swRow)) (x := .row A19 0 0 39 1 [])) ?_
      refine nl ?_
      exact AWP.to (nd111111111111111100000 A19 hA19) (by kernel_rfl) rfl (Sub.cons rfl rfl (Sub.cons rfl rfl (Sub.cons rfl rfl (Sub.cons rfl rfl (Sub.cons rfl rfl Sub.nil)))))
    ·
      refine AWL.allocOp rfl rfl (B rfl) rfl zc_58 (fun b5 => ?_)
      refine AWL.perm (perm_ins (α := Ent) (F := []) (G := (.map m (lmT (whL f.code)) :: .box bw 100 (flCells f m aA n fs) :: .row aA n n 101 1 (fs.sls.map swCell) :: .row fs.tA fs.todo.length fs.tc 3 1 (fs.todo.map zn) :: fs.sls.map swRow)) (x := .box b5 58 (([.int .i64 0, .int .i64 0, .int .i64 0, .int .i64 0, .int .i64 0, .int .i64 0, .int .i64 0, .int .i64 0, .int .i64 0, .int .i64 0, .slice none 0 0]).map T.v))) ?_
      refine nl ?_
      exact AWP.to (nd111111110111111101000 b5 trivial) (by kernel_rfl) rfl (Sub.cons rfl rfl (Sub.cons rfl rfl (Sub.cons rfl rfl (Sub.cons rfl rfl (Sub.cons rfl rfl Sub.nil)))))
    ·
      refine AWL.allocOp rfl rfl (B rfl) rfl zc_101 (fun b6 => ?_)
      refine AWL.perm (perm_ins (α := Ent) (F := []) (G := (.map m (lmT (whL f.code)) :: .box bw 100 (flCells f m aA n fs) :: .row aA n n 101 1 (fs.sls.map swCell) :: .row fs.tA fs.todo.length fs.tc 3 1 (fs.todo.map zn) :: fs.sls.map swRow)) (x := .box b6 101 (([.slice none 0 0]).map T.v))) ?_
      refine nl ?_
      exact AWP.to (nd111111110111111100100 b6 trivial) (by kernel_rfl) rfl (Sub.cons rfl rfl (Sub.cons rfl rfl (Sub.cons rfl rfl (Sub.cons rfl rfl (Sub.cons rfl rfl Sub.nil)))))
  intro nd111111110111111100000
  refine AWP.node (ι := Nat) 6 #[true, true, true, true, true, true, true, true, false, true, true, true, true, true, true, false, false, true, false, false, false] (fun b5 => [(18, true, .agg (insCells (f.code.getD k default))), (25, true, .ep (.slice aA n n) (k * 1)), (5, true, .v (.pointer (some ⟨b5, 0, none⟩))), (0, true, .v (.pointer (some ⟨bw, 0, none⟩))), (1, true, zn k)]) (fun b5 => (.box b5 58 (([.int .i64 0, .int .i64 0, .int .i64 0, .int .i64 0, .int .i64 0, .int .i64 0, .int .i64 0, .int .i64 0, .int .i64 0, .int .i64 0, .slice none 0 0]).map T.v) :: .map m (lmT (whL f.code)) :: .box bw 100 (flCells f m aA n fs) :: .row aA n n 101 1 (fs.sls.map swCell) :: .row fs.tA fs.todo.length fs.tc 3 1 (fs.todo.map zn) :: fs.sls.map swRow)) (fun b5 => True) ?_ ?_
  ·
    rintro b5 _
    refine AWP.three (i := 8) (j := 15) (k := 18) (by kernel_rfl) rfl rfl rfl ?_ ?_ ?_ 
    ·
      refine AWL.buildSliceRowS rfl rfl (B rfl) rfl el_101 (B rfl) rfl evs0 (Nat.le_of_ble_eq_true rfl) rfl rfl (fun A19 hA19 => ?_)
      refine AWL.perm (perm_ins (α := Ent) (F := []) (G := (.box b5 58 (([.int .i64 0, .int .i64 0, .int .i64 0, .int .i64 0, .int .i64 0, .int .i64 0, .int .i64 0, .int .i64 0, .int .i64 0, .int .i64 0, .slice none 0 0]).map T.v) :: .map m (lmT (whL f.code)) :: .box bw 100 (flCells f m aA n fs) :: .row aA n n 101 1 (fs.sls.map swCell) :: .row fs.tA fs.todo.length fs.tc 3 1 (fs.todo.map zn) :: fs.sls.map swRow)) (x := .row A19 0 0 39 1 [])) ?_
      refine nl ?_
      exact AWP.to (nd111111111111111001000 (A19, b5) hA19) (by kernel_rfl) rfl (Sub.cons rfl rfl (Sub.cons rfl rfl (Sub.cons rfl rfl (Sub.cons rfl rfl (Sub.cons rfl rfl (Sub.cons rfl rfl Sub.nil))))))
    ·
      refine Y1 (Yv.loadEp rfl ag_101 (i := 3) rfl (E rfl rfl) (fun hg => sw_cell hkl)) ?_
      refine nl ?_
      exact AWP.to (nd111111110111111101000 b5 trivial) (by kernel_rfl) rfl (Sub.cons rfl rfl (Sub.cons rfl rfl (Sub.cons rfl rfl (Sub.cons rfl rfl (Sub.cons rfl rfl Sub.nil)))))
    ·
      refine AWL.allocOp rfl rfl (B rfl) rfl zc_101 (fun b6 => ?_)
      refine AWL.perm (perm_ins (α := Ent) (F := [.box b5 58 (([.int .i64 0, .int .i64 0, .int .i64 0, .int .i64 0, .int .i64 0, .int .i64 0, .int .i64 0, .int .i64 0, .int .i64 0, .int .i64 0, .slice none 0 0]).map T.v)]) (G := (.map m (lmT (whL f.code)) :: .box bw 100 (flCells f m aA n fs) :: .row aA n n 101 1 (fs.sls.map swCell) :: .row fs.tA fs.todo.length fs.tc 3 1 (fs.todo.map zn) :: fs.sls.map swRow)) (x := .box b6 101 (([.slice none 0 0]).map T.v))) ?_
      refine nl ?_
      exact AWP.to (nd111111110111111001100 (b5, b6) trivial) (by kernel_rfl) rfl (Sub.cons rfl rfl (Sub.cons rfl rfl (Sub.cons rfl rfl (Sub.cons rfl rfl (Sub.cons rfl rfl (Sub.cons rfl rfl Sub.nil))))))
  intro nd111111110111111001000
  refine AWP.node (ι := Nat) 6 #[true, true, true, true, true, true, true, true, false, true, true, true, true, true, true, false, false, false, true, false, false] (fun b6 => [(18, true, .agg (insCells (f.code.getD k default))), (25, true, .ep (.slice aA n n) (k * 1)), (6, true, .v (.pointer (some ⟨b6, 0, none⟩))), (0, true, .v (.pointer (some ⟨bw, 0, none⟩))), (1, true, zn k)]) (fun b6 => (.box b6 101 (([.slice none 0 0]).map T.v) :: .map m (lmT (whL f.code)) :: .box bw 100 (flCells f m aA n fs) :: .row aA n n 101 1 (fs.sls.map swCell) :: .row fs.tA fs.todo.length fs.tc 3 1 (fs.todo.map zn) :: fs.sls.map swRow)) (fun b6 => True) ?_ ?_
  ·
    rintro b6 _
    refine AWP.three (i := 8) (j := 15) (k := 17) (by kernel_rfl) rfl rfl rfl ?_ ?_ ?_ 
    ·
      refine AWL.buildSliceRowS rfl rfl (B rfl) rfl el_101 (B rfl) rfl evs0 (Nat.le_of_ble_eq_true rfl) rfl rfl (fun A19 hA19 => ?_)
      refine AWL.perm (perm_ins (α := Ent) (F := []) (G := (.box b6 101 (([.slice none 0 0]).map T.v) :: .map m (lmT (whL f.code)) :: .box bw 100 (flCells f m aA n fs) :: .row aA n n 101 1 (fs.sls.map swCell) :: .row fs.tA fs.todo.length fs.tc 3 1 (fs.todo.map zn) :: fs.sls.map swRow)) (x := .row A19 0 0 39 1 [])) ?_
      refine nl ?_
      exact AWP.to (nd111111111111111000100 (A19, b6) hA19) (by kernel_rfl) rfl (Sub.cons rfl rfl (Sub.cons rfl rfl (Sub.cons rfl rfl (Sub.cons rfl rfl (Sub.cons rfl rfl (Sub.cons rfl rfl Sub.nil))))))
    ·
      refine Y1 (Yv.loadEp rfl ag_101 (i := 3) rfl (E rfl rfl) (fun hg => sw_cell hkl)) ?_
      refine nl ?_
      exact AWP.to (nd111111110111111100100 b6 trivial) (by kernel_rfl) rfl (Sub.cons rfl rfl (Sub.cons rfl rfl (Sub.cons rfl rfl (Sub.cons rfl rfl (Sub.cons rfl rfl Sub.nil)))))
    ·
      refine AWL.allocOp rfl rfl (B rfl) rfl zc_58 (fun b5 => ?_)
      refine AWL.perm (perm_ins (α := Ent) (F := []) (G := (.box b6 101 (([.slice none 0 0]).map T.v) :: .map m (lmT (whL f.code)) :: .box bw 100 (flCells f m aA n fs) :: .row aA n n 101 1 (fs.sls.map swCell) :: .row fs.tA fs.todo.length fs.tc 3 1 (fs.todo.map zn) :: fs.sls.map swRow)) (x := .box b5 58 (([.int .i64 0, .int .i64 0, .int .i64 0, .int .i64 0, .int .i64 0, .int .i64 0, .int .i64 0, .int .i64 0, .int .i64 0, .int .i64 0, .slice none 0 0]).map T.v))) ?_
      refine nl ?_
      exact AWP.to (nd111111110111111001100 (b5, b6) trivial) (by kernel_rfl) rfl (Sub.cons rfl rfl (Sub.cons rfl rfl (Sub.cons rfl rfl (Sub.cons rfl rfl (Sub.cons rfl rfl (Sub.cons rfl rfl Sub.nil))))))
  intro nd111111110111111000100
  refine AWP.node (ι := Option Addr) 6 #[true, true, true, true, true, true, true, false, true, true, true, true, true, true, true, true, false, false, false, false, false] (fun A19 => [(17, true, .rp (f.code.flatMap insCells) (k * 11)), (19, true, .v (.slice A19 0 0)), (26, true, swCell (fs.sls.getD k default)), (0, true, .v (.pointer (some ⟨bw, 0, none⟩))), (1, true, zn k)]) (fun A19 => (.row A19 0 0 39 1 [] :: .map m (lmT (whL f.code)) :: .box bw 100 (flCells f m aA n fs) :: .row aA n n 101 1 (fs.sls.map swCell) :: .row fs.tA fs.todo.length fs.tc 3 1 (fs.todo.map zn) :: fs.sls.map swRow)) (fun A19 => A19.isSome = true) ?_ ?_
  ·
    rintro A19 hA19
    refine AWP.four (i0 := 7) (i1 := 16) (i2 := 17) (i3 := 18) (by kernel_rfl) rfl rfl rfl rfl ?_ ?_ ?_ ?_ 
    ·
      refine Y1 (Yv.loadRpA rfl ag_58 (E rfl rfl) (fun hg => ins_cells hkc)) ?_
      refine nl ?_
      exact AWP.to (nd111111111111111100000 A19 hA19) (by kernel_rfl) rfl (Sub.cons rfl rfl (Sub.cons rfl rfl (Sub.cons rfl rfl (Sub.cons rfl rfl (Sub.cons rfl rfl Sub.nil)))))
    ·
      refine AWL.appendRowS (i := 0) rfl rfl (B rfl) rfl el_101 (B rfl) rfl (E rfl rfl) (SrcT.row so_101 (i := k + 5) (sw_row hkl) (E rfl rfl)) (by unfold maxLen; omega) (by omega) hA19 (fun A27 c27 hA27 => ?_)
      rw [Nat.zero_add]
      refine nl ?_
      exact AWP.to (nd111111101111111110000 (A19, A27, c27) ⟨hA19, hA27⟩) (by kernel_rfl) rfl (Sub.cons rfl rfl (Sub.cons rfl rfl (Sub.cons rfl rfl (Sub.cons rfl rfl Sub.nil))))
    ·
      refine AWL.allocOp rfl rfl (B rfl) rfl zc_58 (fun b5 => ?_)
      refine AWL.perm (perm_ins (α := Ent) (F := [.row A19 0 0 39 1 []]) (G := (.map m (lmT (whL f.code)) :: .box bw 100 (flCells f m aA n fs) :: .row aA n n 101 1 (fs.sls.map swCell) :: .row fs.tA fs.todo.length fs.tc 3 1 (fs.todo.map zn) :: fs.sls.map swRow)) (x := .box b5 58 (([.int .i64 0, .int .i64 0, .int .i64 0, .int .i64 0, .int .i64 0, .int .i64 0, .int .i64 0, .int .i64 0, .int .i64 0, .int .i64 0, .slice none 0 0]).map T.v))) ?_
      refine nl ?_
      exact AWP.to (nd111111101111111101000 (A19, b5) hA19) (by kernel_rfl) rfl (Sub.cons rfl rfl (Sub.cons rfl rfl (Sub.cons rfl rfl (Sub.cons rfl rfl (Sub.cons rfl rfl (Sub.cons rfl rfl Sub.nil))))))
    ·
      refine AWL.allocOp rfl rfl (B rfl) rfl zc_101 (fun b6 => ?_)
      refine AWL.perm (perm_ins (α := Ent) (F := [.row A19 0 0 39 1 []]) (G := (.map m (lmT (whL f.code)) :: .box bw 100 (flCells f m aA n fs) :: .row aA n n 101 1 (fs.sls.map swCell) :: .row fs.tA fs.todo.length fs.tc 3 1 (fs.todo.map zn) :: fs.sls.map swRow)) (x := .box b6 101 (([.slice none 0 0]).map T.v))) ?_
      refine nl ?_
      exact AWP.to (nd111111101111111100100 (A19, b6) hA19) (by kernel_rfl) rfl (Sub.cons rfl rfl (Sub.cons rfl rfl (Sub.cons rfl rfl (Sub.cons rfl rfl (Sub.cons rfl rfl (Sub.cons rfl rfl Sub.nil))))))
  intro nd111111101111111100000
  refine AWP.node (ι := Option Addr × Nat) 6 #[true, true, true, true, true, true, true, false, true, true, true, true, true, true, true, false, false, true, false, false, false] (fun ⟨A19, b5⟩ => [(17, true, .rp (f.code.flatMap insCells) (k * 11)), (19, true, .v (.slice A19 0 0)), (25, true, .ep (.slice aA n n) (k * 1)), (5, true, .v (.pointer (some ⟨b5, 0, none⟩))), (0, true, .v (.pointer (some ⟨bw, 0, none⟩))), (1, true, zn k)]) (fun ⟨A19, b5⟩ => (.row A19 0 0 39 1 [] :: .box b5 58 (([.int .i64 0, .int .i64 0, .int .i64 0, .int .i64 0, .int .i64 0, .int .i64 0, .int .i64 0, .int .i64 0, .int .i64 0, .int .i64 0, .slice none 0 0]).map T.v) :: .map m (lmT (whL f.code)) :: .box bw 100 (flCells f m aA n fs) :: .row aA n n 101 1 (fs.sls.map swCell) :: .row fs.tA fs.todo.length fs.tc 3 1 (fs.todo.map zn) :: fs.sls.map swRow)) (fun ⟨A19, b5⟩ => A19.isSome = true) ?_ ?_
  ·
    rintro ⟨A19, b5⟩ hA19
    refine AWP.three (i := 7) (j := 15) (k := 18) (by kernel_rfl) rfl rfl rfl ?_ ?_ ?_ 
    ·
      refine Y1 (Yv.loadRpA rfl ag_58 (E rfl rfl) (fun hg => ins_cells hkc)) ?_
      refine nl ?_
      exact AWP.to (nd111111111111111001000 (A19, b5) hA19) (by kernel_rfl) rfl (Sub.cons rfl rfl (Sub.cons rfl rfl (Sub.cons rfl rfl (Sub.cons rfl rfl (Sub.cons rfl rfl (Sub.cons rfl rfl Sub.nil))))))
    ·
      refine Y1 (Yv.loadEp rfl ag_101 (i := 4) rfl (E rfl rfl) (fun hg => sw_cell hkl)) ?_
      refine nl ?_
      exact AWP.to (nd111111101111111101000 (A19, b5) hA19) (by kernel_rfl) rfl (Sub.cons rfl rfl (Sub.cons rfl rfl (Sub.cons rfl rfl (Sub.cons rfl rfl (Sub.cons rfl rfl (Sub.cons rfl rfl Sub.nil))))))
    ·
      refine AWL.allocOp rfl rfl (B rfl) rfl zc_101 (fun b6 => ?_)
      refine AWL.perm (perm_ins (α := Ent) (F := [.row A19 0 0 39 1 [], .box b5 58 (([.int .i64 0, .int .i64 0, .int .i64 0, .int .i64 0, .int .i64 0, .int .i64 0, .int .i64 0, .int .i64 0, .int .i64 0, .int .i64 0, .slice none 0 0]).map T.v)]) (G := (.map m (lmT (whL f.code)) :: .box bw 100 (flCells f m aA n fs) :: .row aA n n 101 1 (fs.sls.map swCell) :: .row fs.tA fs.todo.length fs.tc 3 1 (fs.todo.map zn) :: fs.sls.map swRow)) (x := .box b6 101 (([.slice none 0 0]).map T.v))) ?_
      refine nl ?_
      exact AWP.to (nd111111101111111001100 (A19, b5, b6) hA19) (by kernel_rfl) rfl (Sub.cons rfl rfl (Sub.cons rfl rfl (Sub.cons rfl rfl (Sub.cons rfl rfl (Sub.cons rfl rfl (Sub.cons rfl rfl (Sub.cons rfl rfl Sub.nil)))))))
  intro nd111111101111111001000
  refine AWP.node (ι := Option Addr × Nat) 6 #[true, true, true, true, true, true, true, false, true, true, true, true, true, true, true, false, false, false, true, false, false] (fun ⟨A19, b6⟩ => [(17, true, .rp (f.code.flatMap insCells) (k * 11)), (19, true, .v (.slice A19 0 0)), (25, true, .ep (.slice aA n n) (k * 1)), (6, true, .v (.pointer (some ⟨b6, 0, none⟩))), (0, true, .v (.pointer (some ⟨bw, 0, none⟩))), (1, true, zn k)]) (fun ⟨A19, b6⟩ => (.row A19 0 0 39 1 [] :: .box b6 101 (([.slice none 0 0]).map T.v) :: .map m (lmT (whL f.code)) :: .box bw 100 (flCells f m aA n fs) :: .row aA n n 101 1 (fs.sls.map swCell) :: .row fs.tA fs.todo.length fs.tc 3 1 (fs.todo.map zn) :: fs.sls.map swRow)) (fun ⟨A19, b6⟩ => A19.isSome = true) ?_ ?_
  ·
    rintro ⟨A19, b6⟩ hA19
    refine AWP.three (i := 7) (j := 15) (k := 17) (by kernel_rfl) rfl rfl rfl ?_ ?_ ?_ 
    ·
      refine Y1 (Yv.loadRpA rfl ag_58 (E rfl rfl) (fun hg => ins_cells hkc)) ?_
      refine nl ?_
      exact AWP.to (nd111111111111111000100 (A19, b6) hA19) (by kernel_rfl) rfl (Sub.cons rfl rfl (Sub.cons rfl rfl (Sub.cons rfl rfl (Sub.cons rfl rfl (Sub.cons rfl rfl (Sub.cons rfl rfl Sub.nil))))))
    ·
      refine Y1 (Yv.loadEp rfl ag_101 (i := 4) rfl (E rfl rfl) (fun hg => sw_cell hkl)) ?_
      refine nl ?_
      exact AWP.to (nd111111101111111100100 (A19, b6) hA19) (by kernel_rfl) rfl (Sub.cons rfl rfl (Sub.cons rfl rfl (Sub.cons rfl rfl (Sub.cons rfl rfl (Sub.cons rfl rfl (Sub.cons rfl rfl Sub.nil))))))
    ·
      refine AWL.allocOp rfl rfl (B rfl) rfl zc_58 (fun b5 => ?_)
      refine AWL.perm (perm_ins (α := Ent) (F := [.row A19 0 0 39 1 []]) (G := (.box b6 101 (([.slice none 0 0]).map T.v) :: .map m (lmT (whL f.code)) :: .box bw 100 (flCells f m aA n fs) :: .row aA n n 101 1 (fs.sls.map swCell) :: .row fs.tA fs.todo.length fs.tc 3 1 (fs.todo.map zn) :: fs.sls.map swRow)) (x := .box b5 58 (([.int .i64 0, .int .i64 0, .int .i64 0, .int .i64 0, .int .i64 0, .int .i64 0, .int .i64 0, .int .i64 0, .int .i64 0, .int .i64 0, .slice none 0 0]).map T.v))) ?_
      refine nl ?_
      exact AWP.to (nd111111101111111001100 (A19, b5, b6) hA19) (by kernel_rfl) rfl (Sub.cons rfl rfl (Sub.cons rfl rfl (Sub.cons rfl rfl (Sub.cons rfl rfl (Sub.cons rfl rfl (Sub.cons rfl rfl (Sub.cons rfl rfl Sub.nil)))))))
  intro nd111111101111111000100
  refine AWP.node (ι := Nat) 6 #[true, true, true, true, true, true, true, false, false, true, true, true, true, true, true, true, false, true, false, false, false] (fun b5 => [(17, true, .rp (f.code.flatMap insCells) (k * 11)), (26, true, swCell (fs.sls.getD k default)), (5, true, .v (.pointer (some ⟨b5, 0, none⟩))), (0, true, .v (.pointer (some ⟨bw, 0, none⟩))), (1, true, zn k)]) (fun b5 => (.box b5 58 (([.int .i64 0, .int .i64 0, .int .i64 0, .int .i64 0, .int .i64 0, .int .i64 0, .int .i64 0, .int .i64 0, .int .i64 0, .int .i64 0, .slice none 0 0]).map T.v) :: .map m (lmT (whL f.code)) :: .box bw 100 (flCells f m aA n fs) :: .row aA n n 101 1 (fs.sls.map swCell) :: .row fs.tA fs.todo.length fs.tc 3 1 (fs.todo.map zn) :: fs.sls.map swRow)) (fun b5 => True) ?_ ?_
  ·
    rintro b5 _
    refine AWP.three (i := 7) (j := 8) (k := 18) (by kernel_rfl) rfl rfl rfl ?_ ?_ ?_ 
    ·
      refine Y1 (Yv.loadRpA rfl ag_58 (E rfl rfl) (fun hg => ins_cells hkc)) ?_
      refine nl ?_
      exact AWP.to (nd111111110111111101000 b5 trivial) (by kernel_rfl) rfl (Sub.cons rfl rfl (Sub.cons rfl rfl (Sub.cons rfl rfl (Sub.cons rfl rfl (Sub.cons rfl rfl Sub.nil)))))
    ·
      refine AWL.buildSliceRowS rfl rfl (B rfl) rfl el_101 (B rfl) rfl evs0 (Nat.le_of_ble_eq_true rfl) rfl rfl (fun A19 hA19 => ?_)
      refine AWL.perm (perm_ins (α := Ent) (F := []) (G := (.box b5 58 (([.int .i64 0, .int .i64 0, .int .i64 0, .int .i64 0, .int .i64 0, .int .i64 0, .int .i64 0, .int .i64 0, .int .i64 0, .int .i64 0, .slice none 0 0]).map T.v) :: .map m (lmT (whL f.code)) :: .box bw 100 (flCells f m aA n fs) :: .row aA n n 101 1 (fs.sls.map swCell) :: .row fs.tA fs.todo.length fs.tc 3 1 (fs.todo.map zn) :: fs.sls.map swRow)) (x := .row A19 0 0 39 1 [])) ?_
      refine nl ?_
      exact AWP.to (nd111111101111111101000 (A19, b5) hA19) (by kernel_rfl) rfl (Sub.cons rfl rfl (Sub.cons rfl rfl (Sub.cons rfl rfl (Sub.cons rfl rfl (Sub.cons rfl rfl (Sub.cons rfl rfl Sub.nil))))))
    ·
      refine AWL.allocOp rfl rfl (B rfl) rfl zc_101 (fun b6 => ?_)
      refine AWL.perm (perm_ins (α := Ent) (F := [.box b5 58 (([.int .i64 0, .int .i64 0, .int .i64 0, .int .i64 0, .int .i64 0, .int .i64 0, .int .i64 0, .int .i64 0, .int .i64 0, .int .i64 0, .slice none 0 0]).map T.v)]) (G := (.map m (lmT (whL f.code)) :: .box bw 100 (flCells f m aA n fs) :: .row aA n n 101 1 (fs.sls.map swCell) :: .row fs.tA fs.todo.length fs.tc 3 1 (fs.todo.map zn) :: fs.sls.map swRow)) (x := .box b6 101 (([.slice none 0 0]).map T.v))) ?_
      refine nl ?_
      exact AWP.to (nd111111100111111101100 (b5, b6) trivial) (by kernel_rfl) rfl (Sub.cons rfl rfl (Sub.cons rfl rfl (Sub.cons rfl rfl (Sub.cons rfl rfl (Sub.cons rfl rfl (Sub.cons rfl rfl Sub.nil))))))
  intro nd111111100111111101000
  refine AWP.node (ι := Nat) 6 #[true, true, true, true, true, true, true, false, false, true, true, true, true, true, true, true, false, false, true, false, false] (fun b6 => [(17, true, .rp (f.code.flatMap insCells) (k * 11)), (26, true, swCell (fs.sls.getD k default)), (6, true, .v (.pointer (some ⟨b6, 0, none⟩))), (0, true, .v (.pointer (some ⟨bw, 0, none⟩))), (1, true, zn k)]) (fun b6 => (.box b6 101 (([.slice none 0 0]).map T.v) :: .map m (lmT (whL f.code)) :: .box bw 100 (flCells f m aA n fs) :: .row aA n n 101 1 (fs.sls.map swCell) :: .row fs.tA fs.todo.length fs.tc 3 1 (fs.todo.map zn) :: fs.sls.map swRow)) (fun b6 => True) ?_ ?_
  ·
    rintro b6 _
    refine AWP.three (i := 7) (j := 8) (k := 17) (by kernel_rfl) rfl rfl rfl ?_ ?_ ?_ 
    ·
      refine Y1 (Yv.loadRpA rfl ag_58 (E rfl rfl) (fun hg => ins_cells hkc)) ?_
      refine nl ?_
      exact AWP.to (nd111111110111111100100 b6 trivial) (by kernel_rfl) rfl (Sub.cons rfl rfl (Sub.cons rfl rfl (Sub.cons rfl rfl (Sub.cons rfl rfl (Sub.cons rfl rfl Sub.nil)))))
    ·
      refine AWL.buildSliceRowS rfl rfl (B rfl) rfl el_101 (B rfl) rfl evs0 (Nat.le_of_ble_eq_true rfl) rfl rfl (fun A19 hA19 => ?_)
      refine AWL.perm (perm_ins (α := Ent) (F := []) (G := (.box b6 101 (([.slice none 0 0]).map T.v) :: .map m (lmT (whL f.code)) :: .box bw 100 (flCells f m aA n fs) :: .row aA n n 101 1 (fs.sls.map swCell) :: .row fs.tA fs.todo.length fs.tc 3 1 (fs.todo.map zn) :: fs.sls.map swRow)) (x := .row A19 0 0 39 1 [])) ?_
      refine nl ?_
      exact AWP.to (nd111111101111111100100 (A19, b6) hA19) (by kernel_rfl) rfl (Sub.cons rfl rfl (Sub.cons rfl rfl (Sub.cons rfl rfl (Sub.cons rfl rfl (Sub.cons rfl rfl (Sub.cons rfl rfl Sub.nil))))))
    ·
      refine AWL.allocOp rfl rfl (B rfl) rfl zc_58 (fun b5 => ?_)
      refine AWL.perm (perm_ins (α := Ent) (F := []) (G := (.box b6 101 (([.slice none 0 0]).map T.v) :: .map m (lmT (whL f.code)) :: .box bw 100 (flCells f m aA n fs) :: .row aA n n 101 1 (fs.sls.map swCell) :: .row fs.tA fs.todo.length fs.tc 3 1 (fs.todo.map zn) :: fs.sls.map swRow)) (x := .box b5 58 (([.int .i64 0, .int .i64 0, .int .i64 0, .int .i64 0, .int .i64 0, .int .i64 0, .int .i64 0, .int .i64 0, .int .i64 0, .int .i64 0, .slice none 0 0]).map T.v))) ?_
      refine nl ?_
      exact AWP.to (nd111111100111111101100 (b5, b6) trivial) (by kernel_rfl) rfl (Sub.cons rfl rfl (Sub.cons rfl rfl (Sub.cons rfl rfl (Sub.cons rfl rfl (Sub.cons rfl rfl (Sub.cons rfl rfl Sub.nil))))))
  intro nd111111100111111100100
  refine AWP.node (ι := Nat × Nat) 6 #[true, true, true, true, true, true, true, false, false, true, true, true, true, true, true, false, false, true, true, false, false] (fun ⟨b5, b6⟩ => [(17, true, .rp (f.code.flatMap insCells) (k * 11)), (25, true, .ep (.slice aA n n) (k * 1)), (5, true, .v (.pointer (some ⟨b5, 0, none⟩))), (6, true, .v (.pointer (some ⟨b6, 0, none⟩))), (0, true, .v (.pointer (some ⟨bw, 0, none⟩))), (1, true, zn k)]) (fun ⟨b5, b6⟩ => (.box b5 58 (([.int .i64 0, .int .i64 0, .int .i64 0, .int .i64 0, .int .i64 0, .int .i64 0, .int .i64 0, .int .i64 0, .int .i64 0, .int .i64 0, .slice none 0 0]).map T.v) :: .box b6 101 (([.slice none 0 0]).map T.v) :: .map m (lmT (whL f.code)) :: .box bw 100 (flCells f m aA n fs) :: .row aA n n 101 1 (fs.sls.map swCell) :: .row fs.tA fs.todo.length fs.tc 3 1 (fs.todo.map zn) :: fs.sls.map swRow)) (fun ⟨b5, b6⟩ => True) ?_ ?_
  ·
    rintro ⟨b5, b6⟩ _
    refine AWP.three (i := 7) (j := 8) (k := 15) (by kernel_rfl) rfl rfl rfl ?_ ?_ ?_ 
    ·
      refine Y1 (Yv.loadRpA rfl ag_58 (E rfl rfl) (fun hg => ins_cells hkc)) ?_
      refine nl ?_
      exact AWP.to (nd111111110111111001100 (b5, b6) trivial) (by kernel_rfl) rfl (Sub.cons rfl rfl (Sub.cons rfl rfl (Sub.cons rfl rfl (Sub.cons rfl rfl (Sub.cons rfl rfl (Sub.cons rfl rfl Sub.nil))))))
    ·
      refine AWL.buildSliceRowS rfl rfl (B rfl) rfl el_101 (B rfl) rfl evs0 (Nat.le_of_ble_eq_true rfl) rfl rfl (fun A19 hA19 => ?_)
      refine AWL.perm (perm_ins (α := Ent) (F := []) (G := (.box b5 58 (([.int .i64 0, .int .i64 0, .int .i64 0, .int .i64 0, .int .i64 0, .int .i64 0, .int .i64 0, .int .i64 0, .int .i64 0, .int .i64 0, .slice none 0 0]).map T.v) :: .box b6 101 (([.slice none 0 0]).map T.v) :: .map m (lmT (whL f.code)) :: .box bw 100 (flCells f m aA n fs) :: .row aA n n 101 1 (fs.sls.map swCell) :: .row fs.tA fs.todo.length fs.tc 3 1 (fs.todo.map zn) :: fs.sls.map swRow)) (x := .row A19 0 0 39 1 [])) ?_
      refine nl ?_
      exact AWP.to (nd111111101111111001100 (A19, b5, b6) hA19) (by kernel_rfl) rfl (Sub.cons rfl rfl (Sub.cons rfl rfl (Sub.cons rfl rfl (Sub.cons rfl rfl (Sub.cons rfl rfl (Sub.cons rfl rfl (Sub.cons rfl rfl Sub.nil)))))))
    ·
      refine Y1 (Yv.loadEp rfl ag_101 (i := 4) rfl (E rfl rfl) (fun hg => sw_cell hkl)) ?_
      refine nl ?_
      exact AWP.to (nd111111100111111101100 (b5, b6) trivial) (by kernel_rfl) rfl (Sub.cons rfl rfl (Sub.cons rfl rfl (Sub.cons rfl rfl (Sub.cons rfl rfl (Sub.cons rfl rfl (Sub.cons rfl rfl Sub.nil))))))
  intro nd111111100111111001100
  refine AWP.node (ι := Option Addr × Option Addr × Nat × Nat) 6 #[true, true, true, true, false, true, false, false, true, true, true, true, true, true, true, true, true, true, false, false, false] (fun ⟨A19, A27, c27, b5⟩ => [(14, true, .v (.pointer (some ⟨bw, 0 + 0 + 4, none⟩))), (16, true, zn k), (27, true, .v (.slice A27 (fs.sls.getD k default).ws.length c27)), (5, true, .v (.pointer (some ⟨b5, 0, none⟩))), (0, true, .v (.pointer (some ⟨bw, 0, none⟩))), (1, true, zn k)]) (fun ⟨A19, A27, c27, b5⟩ => (.row A27 (fs.sls.getD k default).ws.length c27 39 1 (((fs.sls.getD k default).ws).map zw) :: .box b5 58 (([.int .i64 0, .int .i64 0, .int .i64 0, .int .i64 0, .int .i64 0, .int .i64 0, .int .i64 0, .int .i64 0, .int .i64 0, .int .i64 0, .slice none 0 0]).map T.v) :: .map m (lmT (whL f.code)) :: .box bw 100 (flCells f m aA n fs) :: .row aA n n 101 1 (fs.sls.map swCell) :: .row fs.tA fs.todo.length fs.tc 3 1 (fs.todo.map zn) :: fs.sls.map swRow)) (fun ⟨A19, A27, c27, b5⟩ => A19.isSome = true ∧ A27.isSome = true) ?_ ?_
  ·
    rintro ⟨A19, A27, c27, b5⟩ ⟨hA19, hA27⟩
    refine AWP.two (i := 4) (j := 18) (by kernel_rfl) rfl rfl ?_ ?_ 
    ·
      refine Y1 (Yv.loadBox rfl ag_49 (i := 3) rfl (E rfl rfl) rfl) ?_
      refine nl ?_
      refine AWP.take (i := 6) rfl (by kernel_rfl) (by kernel_rfl) (by kernel_rfl) rfl rfl (B rfl) (freeIdxSl (j := k) rfl ss_49 (by decide) (E rfl rfl) (E rfl rfl) ⟨rfl, by rw [len_code]; omega⟩) ?_
      exact AWP.to (nd111111101111111111000 (A19, A27, c27, b5) ⟨hA19, hA27⟩) (by kernel_rfl) rfl (Sub.cons rfl rfl (Sub.cons rfl rfl (Sub.cons rfl rfl (Sub.cons rfl rfl (Sub.cons rfl rfl Sub.nil)))))
    ·
      refine AWL.allocOp rfl rfl (B rfl) rfl zc_101 (fun b6 => ?_)
      refine AWL.perm (perm_ins (α := Ent) (F := [.row A27 (fs.sls.getD k default).ws.length c27 39 1 (((fs.sls.getD k default).ws).map zw), .box b5 58 (([.int .i64 0, .int .i64 0, .int .i64 0, .int .i64 0, .int .i64 0, .int .i64 0, .int .i64 0, .int .i64 0, .int .i64 0, .int .i64 0, .slice none 0 0]).map T.v)]) (G := (.map m (lmT (whL f.code)) :: .box bw 100 (flCells f m aA n fs) :: .row aA n n 101 1 (fs.sls.map swCell) :: .row fs.tA fs.todo.length fs.tc 3 1 (fs.todo.map zn) :: fs.sls.map swRow)) (x := .box b6 101 (([.slice none 0 0]).map T.v))) ?_
      refine nl ?_
      exact AWP.to (nd111101001111111111100 (A19, A27, c27, b5, b6) ⟨hA19, hA27⟩) (by kernel_rfl) rfl (Sub.cons rfl rfl (Sub.cons rfl rfl (Sub.cons rfl rfl (Sub.cons rfl rfl (Sub.cons rfl rfl (Sub.cons rfl rfl (Sub.cons rfl rfl Sub.nil)))))))
  intro nd111101001111111111000
  refine AWP.node (ι := Option Addr × Option Addr × Nat × Nat) 6 #[true, true, true, true, false, true, false, false, true, true, true, true, true, true, true, true, true, false, true, false, false] (fun ⟨A19, A27, c27, b6⟩ => [(14, true, .v (.pointer (some ⟨bw, 0 + 0 + 4, none⟩))), (16, true, zn k), (27, true, .v (.slice A27 (fs.sls.getD k default).ws.length c27)), (6, true, .v (.pointer (some ⟨b6, 0, none⟩))), (0, true, .v (.pointer (some ⟨bw, 0, none⟩))), (1, true, zn k)]) (fun ⟨A19, A27, c27, b6⟩ => (.row A27 (fs.sls.getD k default).ws.length c27 39 1 (((fs.sls.getD k default).ws).map zw) :: .box b6 101 (([.slice none 0 0]).map T.v) :: .map m (lmT (whL f.code)) :: .box bw 100 (flCells f m aA n fs) :: .row aA n n 101 1 (fs.sls.map swCell) :: .row fs.tA fs.todo.length fs.tc 3 1 (fs.todo.map zn) :: fs.sls.map swRow)) (fun ⟨A19, A27, c27, b6⟩ => A19.isSome = true ∧ A27.isSome = true) ?_ ?_
  ·
    rintro ⟨A19, A27, c27, b6⟩ ⟨hA19, hA27⟩
    refine AWP.two (i := 4) (j := 17) (by kernel_rfl) rfl rfl ?_ ?_ 
    ·
      refine Y1 (Yv.loadBox rfl ag_49 (i := 3) rfl (E rfl rfl) rfl) ?_
      refine nl ?_
      refine AWP.take (i := 6) rfl (by kernel_rfl) (by kernel_rfl) (by kernel_rfl) rfl rfl (B rfl) (freeIdxSl (j := k) rfl ss_49 (by decide) (E rfl rfl) (E rfl rfl) ⟨rfl, by rw [len_code]; omega⟩) ?_
      exact AWP.to (nd111111101111111110100 (A19, A27, c27, b6) ⟨hA19, hA27⟩) (by kernel_rfl) rfl (Sub.cons rfl rfl (Sub.cons rfl rfl (Sub.cons rfl rfl (Sub.cons rfl rfl (Sub.cons rfl rfl Sub.nil)))))
    ·
      refine AWL.allocOp rfl rfl (B rfl) rfl zc_58 (fun b5 => ?_)
      refine AWL.perm (perm_ins (α := Ent) (F := [.row A27 (fs.sls.getD k default).ws.length c27 39 1 (((fs.sls.getD k default).ws).map zw)]) (G := (.box b6 101 (([.slice none 0 0]).map T.v) :: .map m (lmT (whL f.code)) :: .box bw 100 (flCells f m aA n fs) :: .row aA n n 101 1 (fs.sls.map swCell) :: .row fs.tA fs.todo.length fs.tc 3 1 (fs.todo.map zn) :: fs.sls.map swRow)) (x := .box b5 58 (([.int .i64 0, .int .i64 0, .int .i64 0, .int .i64 0, .int .i64 0, .int .i64 0, .int .i64 0, .int .i64 0, .int .i64 0, .int .i64 0, .slice none 0 0]).map T.v))) ?_
      refine nl ?_
      exact AWP.to (nd111101001111111111100 (A19, A27, c27, b5, b6) ⟨hA19, hA27⟩) (by kernel_rfl) rfl (Sub.cons rfl rfl (Sub.cons rfl rfl (Sub.cons rfl rfl (Sub.cons rfl rfl (Sub.cons rfl rfl (Sub.cons rfl rfl (Sub.cons rfl rfl Sub.nil)))))))
  intro nd111101001111111110100
  refine AWP.node (ι := Option Addr × Nat × Nat) 6 #[true, true, true, true, false, true, false, false, true, true, true, true, true, true, true, true, false, true, true, false, false] (fun ⟨A19, b5, b6⟩ => [(14, true, .v (.pointer (some ⟨bw, 0 + 0 + 4, none⟩))), (16, true, zn k), (19, true, .v (.slice A19 0 0)), (26, true, swCell (fs.sls.getD k default)), (5, true, .v (.pointer (some ⟨b5, 0, none⟩))), (6, true, .v (.pointer (some ⟨b6, 0, none⟩))), (0, true, .v (.pointer (some ⟨bw, 0, none⟩))), (1, true, zn k)]) (fun ⟨A19, b5, b6⟩ => (.row A19 0 0 39 1 [] :: .box b5 58 (([.int .i64 0, .int .i64 0, .int .i64 0, .int .i64 0, .int .i64 0, .int .i64 0, .int .i64 0, .int .i64 0, .int .i64 0, .int .i64 0, .slice none 0 0]).map T.v) :: .box b6 101 (([.slice none 0 0]).map T.v) :: .map m (lmT (whL f.code)) :: .box bw 100 (flCells f m aA n fs) :: .row aA n n 101 1 (fs.sls.map swCell) :: .row fs.tA fs.todo.length fs.tc 3 1 (fs.todo.map zn) :: fs.sls.map swRow)) (fun ⟨A19, b5, b6⟩ => A19.isSome = true) ?_ ?_
  ·
    rintro ⟨A19, b5, b6⟩ hA19
    refine AWP.two (i := 4) (j := 16) (by kernel_rfl) rfl rfl ?_ ?_ 
    ·
      refine Y1 (Yv.loadBox rfl ag_49 (i := 4) rfl (E rfl rfl) rfl) ?_
      refine nl ?_
      refine AWP.take (i := 6) rfl (by kernel_rfl) (by kernel_rfl) (by kernel_rfl) rfl rfl (B rfl) (freeIdxSl (j := k) rfl ss_49 (by decide) (E rfl rfl) (E rfl rfl) ⟨rfl, by rw [len_code]; omega⟩) ?_
      exact AWP.to (nd111111101111111101100 (A19, b5, b6) hA19) (by kernel_rfl) rfl (Sub.cons rfl rfl (Sub.cons rfl rfl (Sub.cons rfl rfl (Sub.cons rfl rfl (Sub.cons rfl rfl (Sub.cons rfl rfl (Sub.cons rfl rfl Sub.nil)))))))
    ·
      refine AWL.appendRowS (i := 0) rfl rfl (B rfl) rfl el_101 (B rfl) rfl (E rfl rfl) (SrcT.row so_101 (i := k + 7) (sw_row hkl) (E rfl rfl)) (by unfold maxLen; omega) (by omega) hA19 (fun A27 c27 hA27 => ?_)
      rw [Nat.zero_add]
      refine nl ?_
      exact AWP.to (nd111101001111111111100 (A19, A27, c27, b5, b6) ⟨hA19, hA27⟩) (by kernel_rfl) rfl (Sub.cons rfl rfl (Sub.cons rfl rfl (Sub.cons rfl rfl (Sub.cons rfl rfl (Sub.cons rfl rfl (Sub.cons rfl rfl (Sub.cons rfl rfl Sub.nil)))))))
  intro nd111101001111111101100
  refine AWP.node (ι := Option Addr × Nat) 7 #[true, true, true, true, true, true, true, true, true, true, true, true, false, true, false, false, false, true, false, false, false] (fun ⟨A19, b5⟩ => [(18, true, .agg (insCells (f.code.getD k default))), (19, true, .v (.slice A19 0 0)), (22, true, .v (.pointer (some ⟨bw, 0 + 6, none⟩))), (24, true, zn k), (5, true, .v (.pointer (some ⟨b5, 0, none⟩))), (0, true, .v (.pointer (some ⟨bw, 0, none⟩))), (1, true, zn k)]) (fun ⟨A19, b5⟩ => (.row A19 0 0 39 1 [] :: .box b5 58 (([.int .i64 0, .int .i64 0, .int .i64 0, .int .i64 0, .int .i64 0, .int .i64 0, .int .i64 0, .int .i64 0, .int .i64 0, .int .i64 0, .slice none 0 0]).map T.v) :: .map m (lmT (whL f.code)) :: .box bw 100 (flCells f m aA n fs) :: .row aA n n 101 1 (fs.sls.map swCell) :: .row fs.tA fs.todo.length fs.tc 3 1 (fs.todo.map zn) :: fs.sls.map swRow)) (fun ⟨A19, b5⟩ => A19.isSome = true) ?_ ?_
  ·
    rintro ⟨A19, b5⟩ hA19
    refine AWP.two (i := 12) (j := 18) (by kernel_rfl) rfl rfl ?_ ?_ 
    ·
      refine Y1 (Yv.loadBox rfl ag_98 (i := 3) rfl (E rfl rfl) rfl) ?_
      refine nl ?_
      refine AWP.take (i := 14) rfl (by kernel_rfl) (by kernel_rfl) (by kernel_rfl) rfl rfl (B rfl) (freeIdxRow (i := 4) rfl ss_98 rfl (E rfl rfl) (E rfl rfl) ⟨rfl, by omega⟩) ?_
      exact AWP.to (nd111111111111111001000 (A19, b5) hA19) (by kernel_rfl) rfl (Sub.cons rfl rfl (Sub.cons rfl rfl (Sub.cons rfl rfl (Sub.cons rfl rfl (Sub.cons rfl rfl (Sub.cons rfl rfl Sub.nil))))))
    ·
      refine AWL.allocOp rfl rfl (B rfl) rfl zc_101 (fun b6 => ?_)
      refine AWL.perm (perm_ins (α := Ent) (F := [.row A19 0 0 39 1 [], .box b5 58 (([.int .i64 0, .int .i64 0, .int .i64 0, .int .i64 0, .int .i64 0, .int .i64 0, .int .i64 0, .int .i64 0, .int .i64 0, .int .i64 0, .slice none 0 0]).map T.v)]) (G := (.map m (lmT (whL f.code)) :: .box bw 100 (flCells f m aA n fs) :: .row aA n n 101 1 (fs.sls.map swCell) :: .row fs.tA fs.todo.length fs.tc 3 1 (fs.todo.map zn) :: fs.sls.map swRow)) (x := .box b6 101 (([.slice none 0 0]).map T.v))) ?_
      refine nl ?_
      exact AWP.to (nd111111111111010001100 (A19, b5, b6) hA19) (by kernel_rfl) rfl (Sub.cons rfl rfl (Sub.cons rfl rfl (Sub.cons rfl rfl (Sub.cons rfl rfl (Sub.cons rfl rfl (Sub.cons rfl rfl (Sub.cons rfl rfl (Sub.cons rfl rfl Sub.nil))))))))
  intro nd111111111111010001000
  refine AWP.node (ι := Option Addr × Nat) 7 #[true, true, true, true, true, true, true, true, true, true, true, true, false, true, false, false, false, false, true, false, false] (fun ⟨A19, b6⟩ => [(18, true, .agg (insCells (f.code.getD k default))), (19, true, .v (.slice A19 0 0)), (22, true, .v (.pointer (some ⟨bw, 0 + 6, none⟩))), (24, true, zn k), (6, true, .v (.pointer (some ⟨b6, 0, none⟩))), (0, true, .v (.pointer (some ⟨bw, 0, none⟩))), (1, true, zn k)]) (fun ⟨A19, b6⟩ => (.row A19 0 0 39 1 [] :: .box b6 101 (([.slice none 0 0]).map T.v) :: .map m (lmT (whL f.code)) :: .box bw 100 (flCells f m aA n fs) :: .row aA n n 101 1 (fs.sls.map swCell) :: .row fs.tA fs.todo.length fs.tc 3 1 (fs.todo.map zn) :: fs.sls.map swRow)) (fun ⟨A19, b6⟩ => A19.isSome = true) ?_ ?_
  ·
    rintro ⟨A19, b6⟩ hA19
    refine AWP.two (i := 12) (j := 17) (by kernel_rfl) rfl rfl ?_ ?_ 
    ·
      refine Y1 (Yv.loadBox rfl ag_98 (i := 3) rfl (E rfl rfl) rfl) ?_
      refine nl ?_
      refine AWP.take (i := 14) rfl (by kernel_rfl) (by kernel_rfl) (by kernel_rfl) rfl rfl (B rfl) (freeIdxRow (i := 4) rfl ss_98 rfl (E rfl rfl) (E rfl rfl) ⟨rfl, by omega⟩) ?_
      exact AWP.to (nd111111111111111000100 (A19, b6) hA19) (by kernel_rfl) rfl (Sub.cons rfl rfl (Sub.cons rfl rfl (Sub.cons rfl rfl (Sub.cons rfl rfl (Sub.cons rfl rfl (Sub.cons rfl rfl Sub.nil))))))
    ·
      refine AWL.allocOp rfl rfl (B rfl) rfl zc_58 (fun b5 => ?_)
      refine AWL.perm (perm_ins (α := Ent) (F := [.row A19 0 0 39 1 []]) (G := (.box b6 101 (([.slice none 0 0]).map T.v) :: .map m (lmT (whL f.code)) :: .box bw 100 (flCells f m aA n fs) :: .row aA n n 101 1 (fs.sls.map swCell) :: .row fs.tA fs.todo.length fs.tc 3 1 (fs.todo.map zn) :: fs.sls.map swRow)) (x := .box b5 58 (([.int .i64 0, .int .i64 0, .int .i64 0, .int .i64 0, .int .i64 0, .int .i64 0, .int .i64 0, .int .i64 0, .int .i64 0, .int .i64 0, .slice none 0 0]).map T.v))) ?_
      refine nl ?_
      exact AWP.to (nd111111111111010001100 (A19, b5, b6) hA19) (by kernel_rfl) rfl (Sub.cons rfl rfl (Sub.cons rfl rfl (Sub.cons rfl rfl (Sub.cons rfl rfl (Sub.cons rfl rfl (Sub.cons rfl rfl (Sub.cons rfl rfl (Sub.cons rfl rfl Sub.nil))))))))
  intro nd111111111111010000100
  refine AWP.node (ι := Unit) 7 #[true, true, true, true, true, true, true, true, false, true, true, true, true, true, true, false, false, false, false, false, false] (fun _ => [(18, true, .agg (insCells (f.code.getD k default))), (25, true, .ep (.slice aA n n) (k * 1)), (0, true, .v (.pointer (some ⟨bw, 0, none⟩))), (1, true, zn k)]) (fun _ => (.map m (lmT (whL f.code)) :: .box bw 100 (flCells f m aA n fs) :: .row aA n n 101 1 (fs.sls.map swCell) :: .row fs.tA fs.todo.length fs.tc 3 1 (fs.todo.map zn) :: fs.sls.map swRow)) (fun _ => True) ?_ ?_
  ·
    rintro _ _
    refine AWP.four (i0 := 8) (i1 := 15) (i2 := 17) (i3 := 18) (by kernel_rfl) rfl rfl rfl rfl ?_ ?_ ?_ ?_ 
    ·
      refine AWL.buildSliceRowS rfl rfl (B rfl) rfl el_101 (B rfl) rfl evs0 (Nat.le_of_ble_eq_true rfl) rfl rfl (fun A19 hA19 => ?_)
      refine AWL.perm (perm_ins (α := Ent) (F := []) (G := (.map m (lmT (whL f.code)) :: .box bw 100 (flCells f m aA n fs) :: .row aA n n 101 1 (fs.sls.map swCell) :: .row fs.tA fs.todo.length fs.tc 3 1 (fs.todo.map zn) :: fs.sls.map swRow)) (x := .row A19 0 0 39 1 [])) ?_
      refine nl ?_
      exact AWP.to (nd111111111111111000000 A19 hA19) (by kernel_rfl) rfl (Sub.cons rfl rfl (Sub.cons rfl rfl (Sub.cons rfl rfl (Sub.cons rfl rfl (Sub.cons rfl rfl Sub.nil)))))
    ·
      refine Y1 (Yv.loadEp rfl ag_101 (i := 2) rfl (E rfl rfl) (fun hg => sw_cell hkl)) ?_
      refine nl ?_
      exact AWP.to (nd111111110111111100000 () trivial) (by kernel_rfl) rfl (Sub.cons rfl rfl (Sub.cons rfl rfl (Sub.cons rfl rfl (Sub.cons rfl rfl Sub.nil))))
    ·
      refine AWL.allocOp rfl rfl (B rfl) rfl zc_58 (fun b5 => ?_)
      refine AWL.perm (perm_ins (α := Ent) (F := []) (G := (.map m (lmT (whL f.code)) :: .box bw 100 (flCells f m aA n fs) :: .row aA n n 101 1 (fs.sls.map swCell) :: .row fs.tA fs.todo.length fs.tc 3 1 (fs.todo.map zn) :: fs.sls.map swRow)) (x := .box b5 58 (([.int .i64 0, .int .i64 0, .int .i64 0, .int .i64 0, .int .i64 0, .int .i64 0, .int .i64 0, .int .i64 0, .int .i64 0, .int .i64 0, .slice none 0 0]).map T.v))) ?_
      refine nl ?_
      exact AWP.to (nd111111110111111001000 b5 trivial) (by kernel_rfl) rfl (Sub.cons rfl rfl (Sub.cons rfl rfl (Sub.cons rfl rfl (Sub.cons rfl rfl (Sub.cons rfl rfl Sub.nil)))))
    ·
      refine AWL.allocOp rfl rfl (B rfl) rfl zc_101 (fun b6 => ?_)
      refine AWL.perm (perm_ins (α := Ent) (F := []) (G := (.map m (lmT (whL f.code)) :: .box bw 100 (flCells f m aA n fs) :: .row aA n n 101 1 (fs.sls.map swCell) :: .row fs.tA fs.todo.length fs.tc 3 1 (fs.todo.map zn) :: fs.sls.map swRow)) (x := .box b6 101 (([.slice none 0 0]).map T.v))) ?_
      refine nl ?_
      exact AWP.to (nd111111110111111000100 b6 trivial) (by kernel_rfl) rfl (Sub.cons rfl rfl (Sub.cons rfl rfl (Sub.cons rfl rfl (Sub.cons rfl rfl (Sub.cons rfl rfl Sub.nil)))))
  intro nd111111110111111000000
  refine AWP.node (ι := Nat × Nat) 7 #[true, true, true, true, true, true, true, true, false, true, true, true, false, true, false, false, false, true, true, false, false] (fun ⟨b5, b6⟩ => [(18, true, .agg (insCells (f.code.getD k default))), (22, true, .v (.pointer (some ⟨bw, 0 + 6, none⟩))), (24, true, zn k), (5, true, .v (.pointer (some ⟨b5, 0, none⟩))), (6, true, .v (.pointer (some ⟨b6, 0, none⟩))), (0, true, .v (.pointer (some ⟨bw, 0, none⟩))), (1, true, zn k)]) (fun ⟨b5, b6⟩ => (.box b5 58 (([.int .i64 0, .int .i64 0, .int .i64 0, .int .i64 0, .int .i64 0, .int .i64 0, .int .i64 0, .int .i64 0, .int .i64 0, .int .i64 0, .slice none 0 0]).map T.v) :: .box b6 101 (([.slice none 0 0]).map T.v) :: .map m (lmT (whL f.code)) :: .box bw 100 (flCells f m aA n fs) :: .row aA n n 101 1 (fs.sls.map swCell) :: .row fs.tA fs.todo.length fs.tc 3 1 (fs.todo.map zn) :: fs.sls.map swRow)) (fun ⟨b5, b6⟩ => True) ?_ ?_
  ·
    rintro ⟨b5, b6⟩ _
    refine AWP.two (i := 8) (j := 12) (by kernel_rfl) rfl rfl ?_ ?_ 
    ·
      refine AWL.buildSliceRowS rfl rfl (B rfl) rfl el_101 (B rfl) rfl evs0 (Nat.le_of_ble_eq_true rfl) rfl rfl (fun A19 hA19 => ?_)
      refine AWL.perm (perm_ins (α := Ent) (F := []) (G := (.box b5 58 (([.int .i64 0, .int .i64 0, .int .i64 0, .int .i64 0, .int .i64 0, .int .i64 0, .int .i64 0, .int .i64 0, .int .i64 0, .int .i64 0, .slice none 0 0]).map T.v) :: .box b6 101 (([.slice none 0 0]).map T.v) :: .map m (lmT (whL f.code)) :: .box bw 100 (flCells f m aA n fs) :: .row aA n n 101 1 (fs.sls.map swCell) :: .row fs.tA fs.todo.length fs.tc 3 1 (fs.todo.map zn) :: fs.sls.map swRow)) (x := .row A19 0 0 39 1 [])) ?_
      refine nl ?_
      exact AWP.to (nd111111111111010001100 (A19, b5, b6) hA19) (by kernel_rfl) rfl (Sub.cons rfl rfl (Sub.cons rfl rfl (Sub.cons rfl rfl (Sub.cons rfl rfl (Sub.cons rfl rfl (Sub.cons rfl rfl (Sub.cons rfl rfl (Sub.cons rfl rfl Sub.nil))))))))
    ·
      refine Y1 (Yv.loadBox rfl ag_98 (i := 3) rfl (E rfl rfl) rfl) ?_
      refine nl ?_
      refine AWP.take (i := 14) rfl (by kernel_rfl) (by kernel_rfl) (by kernel_rfl) rfl rfl (B rfl) (freeIdxRow (i := 4) rfl ss_98 rfl (E rfl rfl) (E rfl rfl) ⟨rfl, by omega⟩) ?_
      exact AWP.to (nd111111110111111001100 (b5, b6) trivial) (by kernel_rfl) rfl (Sub.cons rfl rfl (Sub.cons rfl rfl (Sub.cons rfl rfl (Sub.cons rfl rfl (Sub.cons rfl rfl (Sub.cons rfl rfl Sub.nil))))))
  intro nd111111110111010001100
  refine AWP.node (ι := Option Addr) 7 #[true, true, true, true, true, true, true, false, true, true, true, true, true, true, true, false, false, false, false, false, false] (fun A19 => [(17, true, .rp (f.code.flatMap insCells) (k * 11)), (19, true, .v (.slice A19 0 0)), (25, true, .ep (.slice aA n n) (k * 1)), (0, true, .v (.pointer (some ⟨bw, 0, none⟩))), (1, true, zn k)]) (fun A19 => (.row A19 0 0 39 1 [] :: .map m (lmT (whL f.code)) :: .box bw 100 (flCells f m aA n fs) :: .row aA n n 101 1 (fs.sls.map swCell) :: .row fs.tA fs.todo.length fs.tc 3 1 (fs.todo.map zn) :: fs.sls.map swRow)) (fun A19 => A19.isSome = true) ?_ ?_
  ·
    rintro A19 hA19
    refine AWP.four (i0 := 7) (i1 := 15) (i2 := 17) (i3 := 18) (by kernel_rfl) rfl rfl rfl rfl ?_ ?_ ?_ ?_ 
    ·
      refine Y1 (Yv.loadRpA rfl ag_58 (E rfl rfl) (fun hg => ins_cells hkc)) ?_
      refine nl ?_
      exact AWP.to (nd111111111111111000000 A19 hA19) (by kernel_rfl) rfl (Sub.cons rfl rfl (Sub.cons rfl rfl (Sub.cons rfl rfl (Sub.cons rfl rfl (Sub.cons rfl rfl Sub.nil)))))
    ·
      refine Y1 (Yv.loadEp rfl ag_101 (i := 3) rfl (E rfl rfl) (fun hg => sw_cell hkl)) ?_
      refine nl ?_
      exact AWP.to (nd111111101111111100000 A19 hA19) (by kernel_rfl) rfl (Sub.cons rfl rfl (Sub.cons rfl rfl (Sub.cons rfl rfl (Sub.cons rfl rfl (Sub.cons rfl rfl Sub.nil)))))
    ·
      refine AWL.allocOp rfl rfl (B rfl) rfl zc_58 (fun b5 => ?_)
      refine AWL.perm (perm_ins (α := Ent) (F := [.row A19 0 0 39 1 []]) (G := (.map m (lmT (whL f.code)) :: .box bw 100 (flCells f m aA n fs) :: .row aA n n 101 1 (fs.sls.map swCell) :: .row fs.tA fs.todo.length fs.tc 3 1 (fs.todo.map zn) :: fs.sls.map swRow)) (x := .box b5 58 (([.int .i64 0, .int .i64 0, .int .i64 0, .int .i64 0, .int .i64 0, .int .i64 0, .int .i64 0, .int .i64 0, .int .i64 0, .int .i64 0, .slice none 0 0]).map T.v))) ?_
      refine nl ?_
      exact AWP.to (nd111111101111111001000 (A19, b5) hA19) (by kernel_rfl) rfl (Sub.cons rfl rfl (Sub.cons rfl rfl (Sub.cons rfl rfl (Sub.cons rfl rfl (Sub.cons rfl rfl (Sub.cons rfl rfl Sub.nil))))))
    ·
      refine AWL.allocOp rfl rfl (B rfl) rfl zc_101 (fun b6 => ?_)
      refine AWL.perm (perm_ins (α := Ent) (F := [.row A19 0 0 39 1 []]) (G := (.map m (lmT (whL f.code)) :: .box bw 100 (flCells f m aA n fs) :: .row aA n n 101 1 (fs.sls.map swCell) :: .row fs.tA fs.todo.length fs.tc 3 1 (fs.todo.map zn) :: fs.sls.map swRow)) (x := .box b6 101 (([.slice none 0 0]).map T.v))) ?_
      refine nl ?_
      exact AWP.to (nd111111101111111000100 (A19, b6) hA19) (by kernel_rfl) rfl (Sub.cons rfl rfl (Sub.cons rfl rfl (Sub.cons rfl rfl (Sub.cons rfl rfl (Sub.cons rfl rfl (Sub.cons rfl rfl Sub.nil))))))
  intro nd111111101111111000000
  refine AWP.node (ι := Option Addr × Nat × Nat) 7 #[true, true, true, true, true, true, true, false, true, true, true, true, false, true, false, false, false, true, true, false, false] (fun ⟨A19, b5, b6⟩ => [(17, true, .rp (f.code.flatMap insCells) (k * 11)), (19, true, .v (.slice A19 0 0)), (22, true, .v (.pointer (some ⟨bw, 0 + 6, none⟩))), (24, true, zn k), (5, true, .v (.pointer (some ⟨b5, 0, none⟩))), (6, true, .v (.pointer (some ⟨b6, 0, none⟩))), (0, true, .v (.pointer (some ⟨bw, 0, none⟩))), (1, true, zn k)]) (fun ⟨A19, b5, b6⟩ => (.row A19 0 0 39 1 [] :: .box b5 58 (([.int .i64 0, .int .i64 0, .int .i64 0, .int .i64 0, .int .i64 0, .int .i64 0, .int .i64 0, .int .i64 0, .int .i64 0, .int .i64 0, .slice none 0 0]).map T.v) :: .box b6 101 (([.slice none 0 0]).map T.v) :: .map m (lmT (whL f.code)) :: .box bw 100 (flCells f m aA n fs) :: .row aA n n 101 1 (fs.sls.map swCell) :: .row fs.tA fs.todo.length fs.tc 3 1 (fs.todo.map zn) :: fs.sls.map swRow)) (fun ⟨A19, b5, b6⟩ => A19.isSome = true) ?_ ?_
  ·
    rintro ⟨A19, b5, b6⟩ hA19
    refine AWP.two (i := 7) (j := 12) (by kernel_rfl) rfl rfl ?_ ?_ 
    ·
      refine Y1 (Yv.loadRpA rfl ag_58 (E rfl rfl) (fun hg => ins_cells hkc)) ?_
      refine nl ?_
      exact AWP.to (nd111111111111010001100 (A19, b5, b6) hA19) (by kernel_rfl) rfl (Sub.cons rfl rfl (Sub.cons rfl rfl (Sub.cons rfl rfl (Sub.cons rfl rfl (Sub.cons rfl rfl (Sub.cons rfl rfl (Sub.cons rfl rfl (Sub.cons rfl rfl Sub.nil))))))))
    ·
      refine Y1 (Yv.loadBox rfl ag_98 (i := 4) rfl (E rfl rfl) rfl) ?_
      refine nl ?_
      refine AWP.take (i := 14) rfl (by kernel_rfl) (by kernel_rfl) (by kernel_rfl) rfl rfl (B rfl) (freeIdxRow (i := 5) rfl ss_98 rfl (E rfl rfl) (E rfl rfl) ⟨rfl, by omega⟩) ?_
      exact AWP.to (nd111111101111111001100 (A19, b5, b6) hA19) (by kernel_rfl) rfl (Sub.cons rfl rfl (Sub.cons rfl rfl (Sub.cons rfl rfl (Sub.cons rfl rfl (Sub.cons rfl rfl (Sub.cons rfl rfl (Sub.cons rfl rfl Sub.nil)))))))
  intro nd111111101111010001100
  refine AWP.node (ι := Unit) 7 #[true, true, true, true, true, true, true, false, false, true, true, true, true, true, true, true, false, false, false, false, false] (fun _ => [(17, true, .rp (f.code.flatMap insCells) (k * 11)), (26, true, swCell (fs.sls.getD k default)), (0, true, .v (.pointer (some ⟨bw, 0, none⟩))), (1, true, zn k)]) (fun _ => (.map m (lmT (whL f.code)) :: .box bw 100 (flCells f m aA n fs) :: .row aA n n 101 1 (fs.sls.map swCell) :: .row fs.tA fs.todo.length fs.tc 3 1 (fs.todo.map zn) :: fs.sls.map swRow)) (fun _ => True) ?_ ?_
  ·
    rintro _ _
    refine AWP.four (i0 := 7) (i1 := 8) (i2 := 17) (i3 := 18) (by kernel_rfl) rfl rfl rfl rfl ?_ ?_ ?_ ?_ 
    ·
      refine Y1 (Yv.loadRpA rfl ag_58 (E rfl rfl) (fun hg => ins_cells hkc)) ?_
      refine nl ?_
      exact AWP.to (nd111111110111111100000 () trivial) (by kernel_rfl) rfl (Sub.cons rfl rfl (Sub.cons rfl rfl (Sub.cons rfl rfl (Sub.cons rfl rfl Sub.nil))))
    ·
      refine AWL.buildSliceRowS rfl rfl (B rfl) rfl el_101 (B rfl) rfl evs0 (Nat.le_of_ble_eq_true rfl) rfl rfl (fun A19 hA19 => ?_)
      refine AWL.perm (perm_ins (α := Ent) (F := []) (G := (.map m (lmT (whL f.code)) :: .box bw 100 (flCells f m aA n fs) :: .row aA n n 101 1 (fs.sls.map swCell) :: .row fs.tA fs.todo.length fs.tc 3 1 (fs.todo.map zn) :: fs.sls.map swRow)) (x := .row A19 0 0 39 1 [])) ?_
      refine nl ?_
      exact AWP.to (nd111111101111111100000 A19 hA19) (by kernel_rfl) rfl (Sub.cons rfl rfl (Sub.cons rfl rfl (Sub.cons rfl rfl (Sub.cons rfl rfl (Sub.cons rfl rfl Sub.nil)))))
    ·
      refine AWL.allocOp rfl rfl (B rfl) rfl zc_58 (fun b5 => ?_)
      refine AWL.perm (perm_ins (α := Ent) (F := []) (G := (.map m (lmT (whL f.code)) :: .box bw 100 (flCells f m aA n fs) :: .row aA n n 101 1 (fs.sls.map swCell) :: .row fs.tA fs.todo.length fs.tc 3 1 (fs.todo.map zn) :: fs.sls.map swRow)) (x := .box b5 58 (([.int .i64 0, .int .i64 0, .int .i64 0, .int .i64 0, .int .i64 0, .int .i64 0, .int .i64 0, .int .i64 0, .int .i64 0, .int .i64 0, .slice none 0 0]).map T.v))) ?_
      refine nl ?_
      exact AWP.to (nd111111100111111101000 b5 trivial) (by kernel_rfl) rfl (Sub.cons rfl rfl (Sub.cons rfl rfl (Sub.cons rfl rfl (Sub.cons rfl rfl (Sub.cons rfl rfl Sub.nil)))))
    ·
      refine AWL.allocOp rfl rfl (B rfl) rfl zc_101 (fun b6 => ?_)
      refine AWL.perm (perm_ins (α := Ent) (F := []) (G := (.map m (lmT (whL f.code)) :: .box bw 100 (flCells f m aA n fs) :: .row aA n n 101 1 (fs.sls.map swCell) :: .row fs.tA fs.todo.length fs.tc 3 1 (fs.todo.map zn) :: fs.sls.map swRow)) (x := .box b6 101 (([.slice none 0 0]).map T.v))) ?_
      refine nl ?_
      exact AWP.to (nd111111100111111100100 b6 trivial) (by kernel_rfl) rfl (Sub.cons rfl rfl (Sub.cons rfl rfl (Sub.cons rfl rfl (Sub.cons rfl rfl (Sub.cons rfl rfl Sub.nil)))))
  intro nd111111100111111100000
  refine AWP.node (ι := Nat) 7 #[true, true, true, true, true, true, true, false, false, true, true, true, true, true, true, false, false, true, false, false, false] (fun b5 => [(17, true, .rp (f.code.flatMap insCells) (k * 11)), (25, true, .ep (.slice aA n n) (k * 1)), (5, true, .v (.pointer (some ⟨b5, 0, none⟩))), (0, true, .v (.pointer (some ⟨bw, 0, none⟩))), (1, true, zn k)]) (fun b5 => (.box b5 58 (([.int .i64 0, .int .i64 0, .int .i64 0, .int .i64 0, .int .i64 0, .int .i64 0, .int .i64 0, .int .i64 0, .int .i64 0, .int .i64 0, .slice none 0 0]).map T.v) :: .map m (lmT (whL f.code)) :: .box bw 100 (flCells f m aA n fs) :: .row aA n n 101 1 (fs.sls.map swCell) :: .row fs.tA fs.todo.length fs.tc 3 1 (fs.todo.map zn) :: fs.sls.map swRow)) (fun b5 => True) ?_ ?_
  ·
    rintro b5 _
    refine AWP.four (i0 := 7) (i1 := 8) (i2 := 15) (i3 := 18) (by kernel_rfl) rfl rfl rfl rfl ?_ ?_ ?_ ?_ 
    ·
      refine Y1 (Yv.loadRpA rfl ag_58 (E rfl rfl) (fun hg => ins_cells hkc)) ?_
      refine nl ?_
      exact AWP.to (nd111111110111111001000 b5 trivial) (by kernel_rfl) rfl (Sub.cons rfl rfl (Sub.cons rfl rfl (Sub.cons rfl rfl (Sub.cons rfl rfl (Sub.cons rfl rfl Sub.nil)))))
    ·
      refine AWL.buildSliceRowS rfl rfl (B rfl) rfl el_101 (B rfl) rfl evs0 (Nat.le_of_ble_eq_true rfl) rfl rfl (fun A19 hA19 => ?_)
      refine AWL.perm (perm_ins (α := Ent) (F := []) (G := (.box b5 58 (([.int .i64 0, .int .i64 0, .int .i64 0, .int .i64 0, .int .i64 0, .int .i64 0, .int .i64 0, .int .i64 0, .int .i64 0, .int .i64 0, .slice none 0 0]).map T.v) :: .map m (lmT (whL f.code)) :: .box bw 100 (flCells f m aA n fs) :: .row aA n n 101 1 (fs.sls.map swCell) :: .row fs.tA fs.todo.length fs.tc 3 1 (fs.todo.map zn) :: fs.sls.map swRow)) (x := .row A19 0 0 39 1 [])) ?_
      refine nl ?_
      exact AWP.to (nd111111101111111001000 (A19, b5) hA19) (by kernel_rfl) rfl (Sub.cons rfl rfl (Sub.cons rfl rfl (Sub.cons rfl rfl (Sub.cons rfl rfl (Sub.cons rfl rfl (Sub.cons rfl rfl Sub.nil))))))
    ·
      refine Y1 (Yv.loadEp rfl ag_101 (i := 3) rfl (E rfl rfl) (fun hg => sw_cell hkl)) ?_
      refine nl ?_
      exact AWP.to (nd111111100111111101000 b5 trivial) (by kernel_rfl) rfl (Sub.cons rfl rfl (Sub.cons rfl rfl (Sub.cons rfl rfl (Sub.cons rfl rfl (Sub.cons rfl rfl Sub.nil)))))
    ·
      refine AWL.allocOp rfl rfl (B rfl) rfl zc_101 (fun b6 => ?_)
      refine AWL.perm (perm_ins (α := Ent) (F := [.box b5 58 (([.int .i64 0, .int .i64 0, .int .i64 0, .int .i64 0, .int .i64 0, .int .i64 0, .int .i64 0, .int .i64 0, .int .i64 0, .int .i64 0, .slice none 0 0]).map T.v)]) (G := (.map m (lmT (whL f.code)) :: .box bw 100 (flCells f m aA n fs) :: .row aA n n 101 1 (fs.sls.map swCell) :: .row fs.tA fs.todo.length fs.tc 3 1 (fs.todo.map zn) :: fs.sls.map swRow)) (x := .box b6 101 (([.slice none 0 0]).map T.v))) ?_
      refine nl ?_
      exact AWP.to (nd111111100111111001100 (b5, b6) trivial) (by kernel_rfl) rfl (Sub.cons rfl rfl (Sub.cons rfl rfl (Sub.cons rfl rfl (Sub.cons rfl rfl (Sub.cons rfl rfl (Sub.cons rfl rfl Sub.nil))))))
  intro nd111111100111111001000
  refine AWP.node (ι := Nat) 7 #[true, true, true, true, true, true, true, false, false, true, true, true, true, true, true, false, false, false, true, false, false] (fun b6 => [(17, true, .rp (f.code.flatMap insCells) (k * 11)), (25, true, .ep (.slice aA n n) (k * 1)), (6, true, .v (.pointer (some ⟨b6, 0, none⟩))), (0, true, .v (.pointer (some ⟨bw, 0, none⟩))), (1, true, zn k)]) (fun b6 => (.box b6 101 (([.slice none 0 0]).map T.v) :: .map m (lmT (whL f.code)) :: .box bw 100 (flCells f m aA n fs) :: .row aA n n 101 1 (fs.sls.map swCell) :: .row fs.tA fs.todo.length fs.tc 3 1 (fs.todo.map zn) :: fs.sls.map swRow)) (fun b6 => True) ?_ ?_
  ·
    rintro b6 _
    refine AWP.four (i0 := 7) (i1 := 8) (i2 := 15) (i3 := 17) (by kernel_rfl) rfl rfl rfl rfl ?_ ?_ ?_ ?_ 
    ·
      refine Y1 (Yv.loadRpA rfl ag_58 (E rfl rfl) (fun hg => ins_cells hkc)) ?_
      refine nl ?_
      exact AWP.to (nd111111110111111000100 b6 trivial) (by kernel_rfl) rfl (Sub.cons rfl rfl (Sub.cons rfl rfl (Sub.cons rfl rfl (Sub.cons rfl rfl (Sub.cons rfl rfl Sub.nil)))))
    ·
      refine AWL.buildSliceRowS rfl rfl (B rfl) rfl el_101 (B rfl) rfl evs0 (Nat.le_of_ble_eq_true rfl) rfl rfl (fun A19 hA19 => ?_)
      refine AWL.perm (perm_ins (α := Ent) (F := []) (G := (.box b6 101 (([.slice none 0 0]).map T.v) :: .map m (lmT (whL f.code)) :: .box bw 100 (flCells f m aA n fs) :: .row aA n n 101 1 (fs.sls.map swCell) :: .row fs.tA fs.todo.length fs.tc 3 1 (fs.todo.map zn) :: fs.sls.map swRow)) (x := .row A19 0 0 39 1 [])) ?_
      refine nl ?_
      exact AWP.to (nd111111101111111000100 (A19, b6) hA19) (by kernel_rfl) rfl (Sub.cons rfl rfl (Sub.cons rfl rfl (Sub.cons rfl rfl (Sub.cons rfl rfl (Sub.cons rfl rfl (Sub.cons rfl rfl Sub.nil))))))
    ·
      refine Y1 (Yv.loadEp rfl ag_101 (i := 3) rfl (E rfl rfl) (fun hg => sw_cell hkl)) ?_
      refine nl ?_
      exact AWP.to (nd111111100111111100100 b6 trivial) (by kernel_rfl) rfl (Sub.cons rfl rfl (Sub.cons rfl rfl (Sub.cons rfl rfl (Sub.cons rfl rfl (Sub.cons rfl rfl Sub.nil)))))
    ·
      refine AWL.allocOp rfl rfl (B rfl) rfl zc_58 (fun b5 => ?_)
      refine AWL.perm (perm_ins (α := Ent) (F := []) (G := (.box b6 101 (([.slice none 0 0]).map T.v) :: .map m (lmT (whL f.code)) :: .box bw 100 (flCells f m aA n fs) :: .row aA n n 101 1 (fs.sls.map swCell) :: .row fs.tA fs.todo.length fs.tc 3 1 (fs.todo.map zn) :: fs.sls.map swRow)) (x := .box b5 58 (([.int .i64 0, .int .i64 0, .int .i64 0, .int .i64 0, .int .i64 0, .int .i64 0, .int .i64 0, .int .i64 0, .int .i64 0, .int .i64 0, .slice none 0 0]).map T.v))) ?_
      refine nl ?_
      exact AWP.to (nd111111100111111001100 (b5, b6) trivial) (by kernel_rfl) rfl (Sub.cons rfl rfl (Sub.cons rfl rfl (Sub.cons rfl rfl (Sub.cons rfl rfl (Sub.cons rfl rfl (Sub.cons rfl rfl Sub.nil))))))
  intro nd111111100111111000100
  refine AWP.node (ι := Option Addr × Option Addr × Nat) 7 #[true, true, true, true, false, true, false, false, true, true, true, true, true, true, true, true, true, false, false, false, false] (fun ⟨A19, A27, c27⟩ => [(14, true, .v (.pointer (some ⟨bw, 0 + 0 + 4, none⟩))), (16, true, zn k), (27, true, .v (.slice A27 (fs.sls.getD k default).ws.length c27)), (0, true, .v (.pointer (some ⟨bw, 0, none⟩))), (1, true, zn k)]) (fun ⟨A19, A27, c27⟩ => (.row A27 (fs.sls.getD k default).ws.length c27 39 1 (((fs.sls.getD k default).ws).map zw) :: .map m (lmT (whL f.code)) :: .box bw 100 (flCells f m aA n fs) :: .row aA n n 101 1 (fs.sls.map swCell) :: .row fs.tA fs.todo.length fs.tc 3 1 (fs.todo.map zn) :: fs.sls.map swRow)) (fun ⟨A19, A27, c27⟩ => A19.isSome = true ∧ A27.isSome = true) ?_ ?_
  ·
    rintro ⟨A19, A27, c27⟩ ⟨hA19, hA27⟩
    refine AWP.three (i := 4) (j := 17) (k := 18) (by kernel_rfl) rfl rfl rfl ?_ ?_ ?_ 
    ·
      refine Y1 (Yv.loadBox rfl ag_49 (i := 2) rfl (E rfl rfl) rfl) ?_
      refine nl ?_
      refine AWP.take (i := 6) rfl (by kernel_rfl) (by kernel_rfl) (by kernel_rfl) rfl rfl (B rfl) (freeIdxSl (j := k) rfl ss_49 (by decide) (E rfl rfl) (E rfl rfl) ⟨rfl, by rw [len_code]; omega⟩) ?_
      exact AWP.to (nd111111101111111110000 (A19, A27, c27) ⟨hA19, hA27⟩) (by kernel_rfl) rfl (Sub.cons rfl rfl (Sub.cons rfl rfl (Sub.cons rfl rfl (Sub.cons rfl rfl Sub.nil))))
    ·
      refine AWL.allocOp rfl rfl (B rfl) rfl zc_58 (fun b5 => ?_)
      refine AWL.perm (perm_ins (α := Ent) (F := [.row A27 (fs.sls.getD k default).ws.length c27 39 1 (((fs.sls.getD k default).ws).map zw)]) (G := (.map m (lmT (whL f.code)) :: .box bw 100 (flCells f m aA n fs) :: .row aA n n 101 1 (fs.sls.map swCell) :: .row fs.tA fs.todo.length fs.tc 3 1 (fs.todo.map zn) :: fs.sls.map swRow)) (x := .box b5 58 (([.int .i64 0, .int .i64 0, .int .i64 0, .int .i64 0, .int .i64 0, .int .i64 0, .int .i64 0, .int .i64 0, .int .i64 0, .int .i64 0, .slice none 0 0]).map T.v))) ?_
      refine nl ?_
      exact AWP.to (nd111101001111111111000 (A19, A27, c27, b5) ⟨hA19, hA27⟩) (by kernel_rfl) rfl (Sub.cons rfl rfl (Sub.cons rfl rfl (Sub.cons rfl rfl (Sub.cons rfl rfl (Sub.cons rfl rfl (Sub.cons rfl rfl Sub.nil))))))
    ·
      refine AWL.allocOp rfl rfl (B rfl) rfl zc_101 (fun b6 => ?_)
      refine AWL.perm (perm_ins (α := Ent) (F := [.row A27 (fs.sls.getD k default).ws.length c27 39 1 (((fs.sls.getD k default).ws).map zw)]) (G := (.map m (lmT (whL f.code)) :: .box bw 100 (flCells f m aA n fs) :: .row aA n n 101 1 (fs.sls.map swCell) :: .row fs.tA fs.todo.length fs.tc 3 1 (fs.todo.map zn) :: fs.sls.map swRow)) (x := .box b6 101 (([.slice none 0 0]).map T.v))) ?_
      refine nl ?_
      exact AWP.to (nd111101001111111110100 (A19, A27, c27, b6) ⟨hA19, hA27⟩) (by kernel_rfl) rfl (Sub.cons rfl rfl (Sub.cons rfl rfl (Sub.cons rfl rfl (Sub.cons rfl rfl (Sub.cons rfl rfl (Sub.cons rfl rfl Sub.nil))))))
  intro nd111101001111111110000
  refine AWP.node (ι := Option Addr × Nat) 7 #[true, true, true, true, false, true, false, false, true, true, true, true, true, true, true, true, false, true, false, false, false] (fun ⟨A19, b5⟩ => [(14, true, .v (.pointer (some ⟨bw, 0 + 0 + 4, none⟩))), (16, true, zn k), (19, true, .v (.slice A19 0 0)), (26, true, swCell (fs.sls.getD k default)), (5, true, .v (.pointer (some ⟨b5, 0, none⟩))), (0, true, .v (.pointer (some ⟨bw, 0, none⟩))), (1, true, zn k)]) (fun ⟨A19, b5⟩ => (.row A19 0 0 39 1 [] :: .box b5 58 (([.int .i64 0, .int .i64 0, .int .i64 0, .int .i64 0, .int .i64 0, .int .i64 0, .int .i64 0, .int .i64 0, .int .i64 0, .int .i64 0, .slice none 0 0]).map T.v) :: .map m (lmT (whL f.code)) :: .box bw 100 (flCells f m aA n fs) :: .row aA n n 101 1 (fs.sls.map swCell) :: .row fs.tA fs.todo.length fs.tc 3 1 (fs.todo.map zn) :: fs.sls.map swRow)) (fun ⟨A19, b5⟩ => A19.isSome = true) ?_ ?_
  ·
    rintro ⟨A19, b5⟩ hA19
    refine AWP.three (i := 4) (j := 16) (k := 18) (by kernel_rfl) rfl rfl rfl ?_ ?_ ?_ 
    ·
      refine Y1 (Yv.loadBox rfl ag_49 (i := 3) rfl (E rfl rfl) rfl) ?_
      refine nl ?_
      refine AWP.take (i := 6) rfl (by kernel_rfl) (by kernel_rfl) (by kernel_rfl) rfl rfl (B rfl) (freeIdxSl (j := k) rfl ss_49 (by decide) (E rfl rfl) (E rfl rfl) ⟨rfl, by rw [len_code]; omega⟩) ?_
      exact AWP.to (nd111111101111111101000 (A19, b5) hA19) (by kernel_rfl) rfl (Sub.cons rfl rfl (Sub.cons rfl rfl (Sub.cons rfl rfl (Sub.cons rfl rfl (Sub.cons rfl rfl (Sub.cons rfl rfl Sub.nil))))))
    ·
      refine AWL.appendRowS (i := 0) rfl rfl (B rfl) rfl el_101 (B rfl) rfl (E rfl rfl) (SrcT.row so_101 (i := k + 6) (sw_row hkl) (E rfl rfl)) (by unfold maxLen; omega) (by omega) hA19 (fun A27 c27 hA27 => ?_)
      rw [Nat.zero_add]
      refine nl ?_
      exact AWP.to (nd111101001111111111000 (A19, A27, c27, b5) ⟨hA19, hA27⟩) (by kernel_rfl) rfl (Sub.cons rfl rfl (Sub.cons rfl rfl (Sub.cons rfl rfl (Sub.cons rfl rfl (Sub.cons rfl rfl (Sub.cons rfl rfl Sub.nil))))))
    ·
      refine AWL.allocOp rfl rfl (B rfl) rfl zc_101 (fun b6 => ?_)
      refine AWL.perm (perm_ins (α := Ent) (F := [.row A19 0 0 39 1 [], .box b5 58 (([.int .i64 0, .int .i64 0, .int .i64 0, .int .i64 0, .int .i64 0, .int .i64 0, .int .i64 0, .int .i64 0, .int .i64 0, .int .i64 0, .slice none 0 0]).map T.v)]) (G := (.map m (lmT (whL f.code)) :: .box bw 100 (flCells f m aA n fs) :: .row aA n n 101 1 (fs.sls.map swCell) :: .row fs.tA fs.todo.length fs.tc 3 1 (fs.todo.map zn) :: fs.sls.map swRow)) (x := .box b6 101 (([.slice none 0 0]).map T.v))) ?_
      refine nl ?_
      exact AWP.to (nd111101001111111101100 (A19, b5, b6) hA19) (by kernel_rfl) rfl (Sub.cons rfl rfl (Sub.cons rfl rfl (Sub.cons rfl rfl (Sub.cons rfl rfl (Sub.cons rfl rfl (Sub.cons rfl rfl (Sub.cons rfl rfl (Sub.cons rfl rfl Sub.nil))))))))
  intro nd111101001111111101000
  refine AWP.node (ι := Option Addr × Nat) 7 #[true, true, true, true, false, true, false, false, true, true, true, true, true, true, true, true, false, false, true, false, false] (fun ⟨A19, b6⟩ => [(14, true, .v (.pointer (some ⟨bw, 0 + 0 + 4, none⟩))), (16, true, zn k), (19, true, .v (.slice A19 0 0)), (26, true, swCell (fs.sls.getD k default)), (6, true, .v (.pointer (some ⟨b6, 0, none⟩))), (0, true, .v (.pointer (some ⟨bw, 0, none⟩))), (1, true, zn k)]) (fun ⟨A19, b6⟩ => (.row A19 0 0 39 1 [] :: .box b6 101 (([.slice none 0 0]).map T.v) :: .map m (lmT (whL f.code)) :: .box bw 100 (flCells f m aA n fs) :: .row aA n n 101 1 (fs.sls.map swCell) :: .row fs.tA fs.todo.length fs.tc 3 1 (fs.todo.map zn) :: fs.sls.map swRow)) (fun ⟨A19, b6⟩ => A19.isSome = true) ?_ ?_
  ·
    rintro ⟨A19, b6⟩ hA19
    refine AWP.three (i := 4) (j := 16) (k := 17) (by kernel_rfl) rfl rfl rfl ?_ ?_ ?_ 
    ·
      refine Y1 (Yv.loadBox rfl ag_49 (i := 3) rfl (E rfl rfl) rfl) ?_
      refine nl ?_
      refine AWP.take (i := 6) rfl (by kernel_rfl) (by kernel_rfl) (by kernel_rfl) rfl rfl (B rfl) (freeIdxSl (j := k) rfl ss_49 (by decide) (E rfl rfl) (E rfl rfl) ⟨rfl, by rw [len_code]; omega⟩) ?_
      exact AWP.to (nd111111101111111100100 (A19, b6) hA19) (by kernel_rfl) rfl (Sub.cons rfl rfl (Sub.cons rfl rfl (Sub.cons rfl rfl (Sub.cons rfl rfl (Sub.cons rfl rfl (Sub.cons rfl rfl Sub.nil))))))
    ·
      refine AWL.appendRowS (i := 0) rfl rfl (B rfl) rfl el_101 (B rfl) rfl (E rfl rfl) (SrcT.row so_101 (i := k + 6) (sw_row hkl) (E rfl rfl)) (by unfold maxLen; omega) (by omega) hA19 (fun A27 c27 hA27 => ?_)
      rw [Nat.zero_add]
      refine nl ?_
      exact AWP.to (nd111101001111111110100 (A19, A27, c27, b6) ⟨hA19, hA27⟩) (by kernel_rfl) rfl (Sub.cons rfl rfl (Sub.cons rfl rfl (Sub.cons rfl rfl (Sub.cons rfl rfl (Sub.cons rfl rfl (Sub.cons rfl rfl Sub.nil))))))
    ·
      refine AWL.allocOp rfl rfl (B rfl) rfl zc_58 (fun b5 => ?_)
      refine AWL.perm (perm_ins (α := Ent) (F := [.row A19 0 0 39 1 []]) (G := (.box b6 101 (([.slice none 0 0]).map T.v) :: .map m (lmT (whL f.code)) :: .box bw 100 (flCells f m aA n fs) :: .row aA n n 101 1 (fs.sls.map swCell) :: .row fs.tA fs.todo.length fs.tc 3 1 (fs.todo.map zn) :: fs.sls.map swRow)) (x := .box b5 58 (([.int .i64 0, .int .i64 0, .int .i64 0, .int .i64 0, .int .i64 0, .int .i64 0, .int .i64 0, .int .i64 0, .int .i64 0, .int .i64 0, .slice none 0 0]).map T.v))) ?_
      refine nl ?_
      exact AWP.to (nd111101001111111101100 (A19, b5, b6) hA19) (by kernel_rfl) rfl (Sub.cons rfl rfl (Sub.cons rfl rfl (Sub.cons rfl rfl (Sub.cons rfl rfl (Sub.cons rfl rfl (Sub.cons rfl rfl (Sub.cons rfl rfl (Sub.cons rfl rfl Sub.nil))))))))
  intro nd111101001111111100100
  refine AWP.node (ι := Option Addr × Nat × Nat) 7 #[true, true, true, true, false, true, false, false, true, true, true, true, true, true, true, false, false, true, true, false, false] (fun ⟨A19, b5, b6⟩ => [(14, true, .v (.pointer (some ⟨bw, 0 + 0 + 4, none⟩))), (16, true, zn k), (19, true, .v (.slice A19 0 0)), (25, true, .ep (.slice aA n n) (k * 1)), (5, true, .v (.pointer (some ⟨b5, 0, none⟩))), (6, true, .v (.pointer (some ⟨b6, 0, none⟩))), (0, true, .v (.pointer (some ⟨bw, 0, none⟩))), (1, true, zn k)]) (fun ⟨A19, b5, b6⟩ => (.row A19 0 0 39 1 [] :: .box b5 58 (([.int .i64 0, .int .i64 0, .int .i64 0, .int .i64 0, .int .i64 0, .int .i64 0, .int .i64 0, .int .i64 0, .int .i64 0, .int .i64 0, .slice none 0 0]).map T.v) :: .box b6 101 (([.slice none 0 0]).map T.v) :: .map m (lmT (whL f.code)) :: .box bw 100 (flCells f m aA n fs) :: .row aA n n 101 1 (fs.sls.map swCell) :: .row fs.tA fs.todo.length fs.tc 3 1 (fs.todo.map zn) :: fs.sls.map swRow)) (fun ⟨A19, b5, b6⟩ => A19.isSome = true) ?_ ?_
  ·
    rintro ⟨A19, b5, b6⟩ hA19
    refine AWP.two (i := 4) (j := 15) (by kernel_rfl) rfl rfl ?_ ?_ 
    ·
      refine Y1 (Yv.loadBox rfl ag_49 (i := 4) rfl (E rfl rfl) rfl) ?_
      refine nl ?_
      refine AWP.take (i := 6) rfl (by kernel_rfl) (by kernel_rfl) (by kernel_rfl) rfl rfl (B rfl) (freeIdxSl (j := k) rfl ss_49 (by decide) (E rfl rfl) (E rfl rfl) ⟨rfl, by rw [len_code]; omega⟩) ?_
      exact AWP.to (nd111111101111111001100 (A19, b5, b6) hA19) (by kernel_rfl) rfl (Sub.cons rfl rfl (Sub.cons rfl rfl (Sub.cons rfl rfl (Sub.cons rfl rfl (Sub.cons rfl rfl (Sub.cons rfl rfl (Sub.cons rfl rfl Sub.nil)))))))
    ·
      refine Y1 (Yv.loadEp rfl ag_101 (i := 5) rfl (E rfl rfl) (fun hg => sw_cell hkl)) ?_
      refine nl ?_
      exact AWP.to (nd111101001111111101100 (A19, b5, b6) hA19) (by kernel_rfl) rfl (Sub.cons rfl rfl (Sub.cons rfl rfl (Sub.cons rfl rfl (Sub.cons rfl rfl (Sub.cons rfl rfl (Sub.cons rfl rfl (Sub.cons rfl rfl (Sub.cons rfl rfl Sub.nil))))))))
  intro nd111101001111111001100
  refine AWP.node (ι := Nat × Nat) 7 #[true, true, true, true, false, true, false, false, false, true, true, true, true, true, true, true, false, true, true, false, false] (fun ⟨b5, b6⟩ => [(14, true, .v (.pointer (some ⟨bw, 0 + 0 + 4, none⟩))), (16, true, zn k), (26, true, swCell (fs.sls.getD k default)), (5, true, .v (.pointer (some ⟨b5, 0, none⟩))), (6, true, .v (.pointer (some ⟨b6, 0, none⟩))), (0, true, .v (.pointer (some ⟨bw, 0, none⟩))), (1, true, zn k)]) (fun ⟨b5, b6⟩ => (.box b5 58 (([.int .i64 0, .int .i64 0, .int .i64 0, .int .i64 0, .int .i64 0, .int .i64 0, .int .i64 0, .int .i64 0, .int .i64 0, .int .i64 0, .slice none 0 0]).map T.v) :: .box b6 101 (([.slice none 0 0]).map T.v) :: .map m (lmT (whL f.code)) :: .box bw 100 (flCells f m aA n fs) :: .row aA n n 101 1 (fs.sls.map swCell) :: .row fs.tA fs.todo.length fs.tc 3 1 (fs.todo.map zn) :: fs.sls.map swRow)) (fun ⟨b5, b6⟩ => True) ?_ ?_
  ·
    rintro ⟨b5, b6⟩ _
    refine AWP.two (i := 4) (j := 8) (by kernel_rfl) rfl rfl ?_ ?_ 
    ·
      refine Y1 (Yv.loadBox rfl ag_49 (i := 3) rfl (E rfl rfl) rfl) ?_
      refine nl ?_
      refine AWP.take (i := 6) rfl (by kernel_rfl) (by kernel_rfl) (by kernel_rfl) rfl rfl (B rfl) (freeIdxSl (j := k) rfl ss_49 (by decide) (E rfl rfl) (E rfl rfl) ⟨rfl, by rw [len_code]; omega⟩) ?_
      exact AWP.to (nd111111100111111101100 (b5, b6) trivial) (by kernel_rfl) rfl (Sub.cons rfl rfl (Sub.cons rfl rfl (Sub.cons rfl rfl (Sub.cons rfl rfl (Sub.cons rfl rfl (Sub.cons rfl rfl Sub.nil))))))
    ·
      refine AWL.buildSliceRowS rfl rfl (B rfl) rfl el_101 (B rfl) rfl evs0 (Nat.le_of_ble_eq_true rfl) rfl rfl (fun A19 hA19 => ?_)
      refine AWL.perm (perm_ins (α := Ent) (F := []) (G := (.box b5 58 (([.int .i64 0, .int .i64 0, .int .i64 0, .int .i64 0, .int .i64 0, .int .i64 0, .int .i64 0, .int .i64 0, .int .i64 0, .int .i64 0, .slice none 0 0]).map T.v) :: .box b6 101 (([.slice none 0 0]).map T.v) :: .map m (lmT (whL f.code)) :: .box bw 100 (flCells f m aA n fs) :: .row aA n n 101 1 (fs.sls.map swCell) :: .row fs.tA fs.todo.length fs.tc 3 1 (fs.todo.map zn) :: fs.sls.map swRow)) (x := .row A19 0 0 39 1 [])) ?_
      refine nl ?_
      exact AWP.to (nd111101001111111101100 (A19, b5, b6) hA19) (by kernel_rfl) rfl (Sub.cons rfl rfl (Sub.cons rfl rfl (Sub.cons rfl rfl (Sub.cons rfl rfl (Sub.cons rfl rfl (Sub.cons rfl rfl (Sub.cons rfl rfl (Sub.cons rfl rfl Sub.nil))))))))
  intro nd111101000111111101100
  refine AWP.node (ι := Option Addr) 8 #[true, true, true, true, true, true, true, true, true, true, true, true, false, true, false, false, false, false, false, false, false] (fun A19 => [(18, true, .agg (insCells (f.code.getD k default))), (19, true, .v (.slice A19 0 0)), (22, true, .v (.pointer (some ⟨bw, 0 + 6, none⟩))), (24, true, zn k), (0, true, .v (.pointer (some ⟨bw, 0, none⟩))), (1, true, zn k)]) (fun A19 => (.row A19 0 0 39 1 [] :: .map m (lmT (whL f.code)) :: .box bw 100 (flCells f m aA n fs) :: .row aA n n 101 1 (fs.sls.map swCell) :: .row fs.tA fs.todo.length fs.tc 3 1 (fs.todo.map zn) :: fs.sls.map swRow)) (fun A19 => A19.isSome = true) ?_ ?_
  ·
    rintro A19 hA19
    refine AWP.three (i := 12) (j := 17) (k := 18) (by kernel_rfl) rfl rfl rfl ?_ ?_ ?_ 
    ·
      refine Y1 (Yv.loadBox rfl ag_98 (i := 2) rfl (E rfl rfl) rfl) ?_
      refine nl ?_
      refine AWP.take (i := 14) rfl (by kernel_rfl) (by kernel_rfl) (by kernel_rfl) rfl rfl (B rfl) (freeIdxRow (i := 3) rfl ss_98 rfl (E rfl rfl) (E rfl rfl) ⟨rfl, by omega⟩) ?_
      exact AWP.to (nd111111111111111000000 A19 hA19) (by kernel_rfl) rfl (Sub.cons rfl rfl (Sub.cons rfl rfl (Sub.cons rfl rfl (Sub.cons rfl rfl (Sub.cons rfl rfl Sub.nil)))))
    ·
      refine AWL.allocOp rfl rfl (B rfl) rfl zc_58 (fun b5 => ?_)
      refine AWL.perm (perm_ins (α := Ent) (F := [.row A19 0 0 39 1 []]) (G := (.map m (lmT (whL f.code)) :: .box bw 100 (flCells f m aA n fs) :: .row aA n n 101 1 (fs.sls.map swCell) :: .row fs.tA fs.todo.length fs.tc 3 1 (fs.todo.map zn) :: fs.sls.map swRow)) (x := .box b5 58 (([.int .i64 0, .int .i64 0, .int .i64 0, .int .i64 0, .int .i64 0, .int .i64 0, .int .i64 0, .int .i64 0, .int .i64 0, .int .i64 0, .slice none 0 0]).map T.v))) ?_
      refine nl ?_
      exact AWP.to (nd111111111111010001000 (A19, b5) hA19) (by kernel_rfl) rfl (Sub.cons rfl rfl (Sub.cons rfl rfl (Sub.cons rfl rfl (Sub.cons rfl rfl (Sub.cons rfl rfl (Sub.cons rfl rfl (Sub.cons rfl rfl Sub.nil)))))))
    ·
      refine AWL.allocOp rfl rfl (B rfl) rfl zc_101 (fun b6 => ?_)
      refine AWL.perm (perm_ins (α := Ent) (F := [.row A19 0 0 39 1 []]) (G := (.map m (lmT (whL f.code)) :: .box bw 100 (flCells f m aA n fs) :: .row aA n n 101 1 (fs.sls.map swCell) :: .row fs.tA fs.todo.length fs.tc 3 1 (fs.todo.map zn) :: fs.sls.map swRow)) (x := .box b6 101 (([.slice none 0 0]).map T.v))) ?_
      refine nl ?_
      exact AWP.to (nd111111111111010000100 (A19, b6) hA19) (by kernel_rfl) rfl (Sub.cons rfl rfl (Sub.cons rfl rfl (Sub.cons rfl rfl (Sub.cons rfl rfl (Sub.cons rfl rfl (Sub.cons rfl rfl (Sub.cons rfl rfl Sub.nil)))))))
  intro nd111111111111010000000
  refine AWP.node (ι := Nat) 8 #[true, true, true, true, true, true, true, true, false, true, true, true, false, true, false, false, false, true, false, false, false] (fun b5 => [(18, true, .agg (insCells (f.code.getD k default))), (22, true, .v (.pointer (some ⟨bw, 0 + 6, none⟩))), (24, true, zn k), (5, true, .v (.pointer (some ⟨b5, 0, none⟩))), (0, true, .v (.pointer (some ⟨bw, 0, none⟩))), (1, true, zn k)]) (fun b5 => (.box b5 58 (([.int .i64 0, .int .i64 0, .int .i64 0, .int .i64 0, .int .i64 0, .int .i64 0, .int .i64 0, .int .i64 0, .int .i64 0, .int .i64 0, .slice none 0 0]).map T.v) :: .map m (lmT (whL f.code)) :: .box bw 100 (flCells f m aA n fs) :: .row aA n n 101 1 (fs.sls.map swCell) :: .row fs.tA fs.todo.length fs.tc 3 1 (fs.todo.map zn) :: fs.sls.map swRow)) (fun b5 => True) ?_ ?_
  ·
    rintro b5 _
    refine AWP.three (i := 8) (j := 12) (k := 18) (by kernel_rfl) rfl rfl rfl ?_ ?_ ?_ 
    ·
      refine AWL.buildSliceRowS rfl rfl (B rfl) rfl el_101 (B rfl) rfl evs0 (Nat.le_of_ble_eq_true rfl) rfl rfl (fun A19 hA19 => ?_)
      refine AWL.perm (perm_ins (α := Ent) (F := []) (G := (.box b5 58 (([.int .i64 0, .int .i64 0, .int .i64 0, .int .i64 0, .int .i64 0, .int .i64 0, .int .i64 0, .int .i64 0, .int .i64 0, .int .i64 0, .slice none 0 0]).map T.v) :: .map m (lmT (whL f.code)) :: .box bw 100 (flCells f m aA n fs) :: .row aA n n 101 1 (fs.sls.map swCell) :: .row fs.tA fs.todo.length fs.tc 3 1 (fs.todo.map zn) :: fs.sls.map swRow)) (x := .row A19 0 0 39 1 [])) ?_
      refine nl ?_
      exact AWP.to (nd111111111111010001000 (A19, b5) hA19) (by kernel_rfl) rfl (Sub.cons rfl rfl (Sub.cons rfl rfl (Sub.cons rfl rfl (Sub.cons rfl rfl (Sub.cons rfl rfl (Sub.cons rfl rfl (Sub.cons rfl rfl Sub.nil)))))))
    ·
      refine Y1 (Yv.loadBox rfl ag_98 (i := 2) rfl (E rfl rfl) rfl) ?_
      refine nl ?_
      refine AWP.take (i := 14) rfl (by kernel_rfl) (by kernel_rfl) (by kernel_rfl) rfl rfl (B rfl) (freeIdxRow (i := 3) rfl ss_98 rfl (E rfl rfl) (E rfl rfl) ⟨rfl, by omega⟩) ?_
      exact AWP.to (nd111111110111111001000 b5 trivial) (by kernel_rfl) rfl (Sub.cons rfl rfl (Sub.cons rfl rfl (Sub.cons rfl rfl (Sub.cons rfl rfl (Sub.cons rfl rfl Sub.nil)))))
    ·
      refine AWL.allocOp rfl rfl (B rfl) rfl zc_101 (fun b6 => ?_)
      refine AWL.perm (perm_ins (α := Ent) (F := [.box b5 58 (([.int .i64 0, .int .i64 0, .int .i64 0, .int .i64 0, .int .i64 0, .int .i64 0, .int .i64 0, .int .i64 0, .int .i64 0, .int .i64 0, .slice none 0 0]).map T.v)]) (G := (.map m (lmT (whL f.code)) :: .box bw 100 (flCells f m aA n fs) :: .row aA n n 101 1 (fs.sls.map swCell) :: .row fs.tA fs.todo.length fs.tc 3 1 (fs.todo.map zn) :: fs.sls.map swRow)) (x := .box b6 101 (([.slice none 0 0]).map T.v))) ?_
      refine nl ?_
      exact AWP.to (nd111111110111010001100 (b5, b6) trivial) (by kernel_rfl) rfl (Sub.cons rfl rfl (Sub.cons rfl rfl (Sub.cons rfl rfl (Sub.cons rfl rfl (Sub.cons rfl rfl (Sub.cons rfl rfl (Sub.cons rfl rfl Sub.nil)))))))
  intro nd111111110111010001000
  refine AWP.node (ι := Nat) 8 #[true, true, true, true, true, true, true, true, false, true, true, true, false, true, false, false, false, false, true, false, false] (fun b6 => [(18, true, .agg (insCells (f.code.getD k default))), (22, true, .v (.pointer (some ⟨bw, 0 + 6, none⟩))), (24, true, zn k), (6, true, .v (.pointer (some ⟨b6, 0, none⟩))), (0, true, .v (.pointer (some ⟨bw, 0, none⟩))), (1, true, zn k)]) (fun b6 => (.box b6 101 (([.slice none 0 0]).map T.v) :: .map m (lmT (whL f.code)) :: .box bw 100 (flCells f m aA n fs) :: .row aA n n 101 1 (fs.sls.map swCell) :: .row fs.tA fs.todo.length fs.tc 3 1 (fs.todo.map zn) :: fs.sls.map swRow)) (fun b6 => True) ?_ ?_
  ·
    rintro b6 _
    refine AWP.three (i := 8) (j := 12) (k := 17) (by kernel_rfl) rfl rfl rfl ?_ ?_ ?_ 
    ·
      refine AWL.buildSliceRowS rfl rfl (B rfl) rfl el_101 (B rfl) rfl evs0 (Nat.le_of_ble_eq_true rfl) rfl rfl (fun A19 hA19 => ?_)
      refine AWL.perm (perm_ins (α := Ent) (F := []) (G := (.box b6 101 (([.slice none 0 0]).map T.v) :: .map m (lmT (whL f.code)) :: .box bw 100 (flCells f m aA n fs) :: .row aA n n 101 1 (fs.sls.map swCell) :: .row fs.tA fs.todo.length fs.tc 3 1 (fs.todo.map zn) :: fs.sls.map swRow)) (x := .row A19 0 0 39 1 [])) ?_
      refine nl ?_
      exact AWP.to (nd111111111111010000100 (A19, b6) hA19) (by kernel_rfl) rfl (Sub.cons rfl rfl (Sub.cons rfl rfl (Sub.cons rfl rfl (Sub.cons rfl rfl (Sub.cons rfl rfl (Sub.cons rfl rfl (Sub.cons rfl rfl Sub.nil)))))))
    ·
      refine Y1 (Yv.loadBox rfl ag_98 (i := 2) rfl (E rfl rfl) rfl) ?_
      refine nl ?_
      refine AWP.take (i := 14) rfl (by kernel_rfl) (by kernel_rfl) (by kernel_rfl) rfl rfl (B rfl) (freeIdxRow (i := 3) rfl ss_98 rfl (E rfl rfl) (E rfl rfl) ⟨rfl, by omega⟩) ?_
      exact AWP.to (nd111111110111111000100 b6 trivial) (by kernel_rfl) rfl (Sub.cons rfl rfl (Sub.cons rfl rfl (Sub.cons rfl rfl (Sub.cons rfl rfl (Sub.cons rfl rfl Sub.nil)))))
    ·
      refine AWL.allocOp rfl rfl (B rfl) rfl zc_58 (fun b5 => ?_)
      refine AWL.perm (perm_ins (α := Ent) (F := []) (G := (.box b6 101 (([.slice none 0 0]).map T.v) :: .map m (lmT (whL f.code)) :: .box bw 100 (flCells f m aA n fs) :: .row aA n n 101 1 (fs.sls.map swCell) :: .row fs.tA fs.todo.length fs.tc 3 1 (fs.todo.map zn) :: fs.sls.map swRow)) (x := .box b5 58 (([.int .i64 0, .int .i64 0, .int .i64 0, .int .i64 0, .int .i64 0, .int .i64 0, .int .i64 0, .int .i64 0, .int .i64 0, .int .i64 0, .slice none 0 0]).map T.v))) ?_
      refine nl ?_
      exact AWP.to (nd111111110111010001100 (b5, b6) trivial) (by kernel_rfl) rfl (Sub.cons rfl rfl (Sub.cons rfl rfl (Sub.cons rfl rfl (Sub.cons rfl rfl (Sub.cons rfl rfl (Sub.cons rfl rfl (Sub.cons rfl rfl Sub.nil)))))))
  intro nd111111110111010000100
  refine AWP.node (ι := Option Addr × Nat) 8 #[true, true, true, true, true, true, true, false, true, true, true, true, false, true, false, false, false, true, false, false, false] (fun ⟨A19, b5⟩ => [(17, true, .rp (f.code.flatMap insCells) (k * 11)), (19, true, .v (.slice A19 0 0)), (22, true, .v (.pointer (some ⟨bw, 0 + 6, none⟩))), (24, true, zn k), (5, true, .v (.pointer (some ⟨b5, 0, none⟩))), (0, true, .v (.pointer (some ⟨bw, 0, none⟩))), (1, true, zn k)]) (fun ⟨A19, b5⟩ => (.row A19 0 0 39 1 [] :: .box b5 58 (([.int .i64 0, .int .i64 0, .int .i64 0, .int .i64 0, .int .i64 0, .int .i64 0, .int .i64 0, .int .i64 0, .int .i64 0, .int .i64 0, .slice none 0 0]).map T.v) :: .map m (lmT (whL f.code)) :: .box bw 100 (flCells f m aA n fs) :: .row aA n n 101 1 (fs.sls.map swCell) :: .row fs.tA fs.todo.length fs.tc 3 1 (fs.todo.map zn) :: fs.sls.map swRow)) (fun ⟨A19, b5⟩ => A19.isSome = true) ?_ ?_
  ·
    rintro ⟨A19, b5⟩ hA19
    refine AWP.three (i := 7) (j := 12) (k := 18) (by kernel_rfl) rfl rfl rfl ?_ ?_ ?_ 
    ·
      refine Y1 (Yv.loadRpA rfl ag_58 (E rfl rfl) (fun hg => ins_cells hkc)) ?_
      refine nl ?_
      exact AWP.to (nd111111111111010001000 (A19, b5) hA19) (by kernel_rfl) rfl (Sub.cons rfl rfl (Sub.cons rfl rfl (Sub.cons rfl rfl (Sub.cons rfl rfl (Sub.cons rfl rfl (Sub.cons rfl rfl (Sub.cons rfl rfl Sub.nil)))))))
    ·
      refine Y1 (Yv.loadBox rfl ag_98 (i := 3) rfl (E rfl rfl) rfl) ?_
      refine nl ?_
      refine AWP.take (i := 14) rfl (by kernel_rfl) (by kernel_rfl) (by kernel_rfl) rfl rfl (B rfl) (freeIdxRow (i := 4) rfl ss_98 rfl (E rfl rfl) (E rfl rfl) ⟨rfl, by omega⟩) ?_
      exact AWP.to (nd111111101111111001000 (A19, b5) hA19) (by kernel_rfl) rfl (Sub.cons rfl rfl (Sub.cons rfl rfl (Sub.cons rfl rfl (Sub.cons rfl rfl (Sub.cons rfl rfl (Sub.cons rfl rfl Sub.nil))))))
    ·
      refine AWL.allocOp rfl rfl (B rfl) rfl zc_101 (fun b6 => ?_)
      refine AWL.perm (perm_ins (α := Ent) (F := [.row A19 0 0 39 1 [], .box b5 58 (([.int .i64 0, .int .i64 0, .int .i64 0, .int .i64 0, .int .i64 0, .int .i64 0, .int .i64 0, .int .i64 0, .int .i64 0, .int .i64 0, .slice none 0 0]).map T.v)]) (G := (.map m (lmT (whL f.code)) :: .box bw 100 (flCells f m aA n fs) :: .row aA n n 101 1 (fs.sls.map swCell) :: .row fs.tA fs.todo.length fs.tc 3 1 (fs.todo.map zn) :: fs.sls.map swRow)) (x := .box b6 101 (([.slice none 0 0]).map T.v))) ?_
      refine nl ?_
      exact AWP.to (nd111111101111010001100 (A19, b5, b6) hA19) (by kernel_rfl) rfl (Sub.cons rfl rfl (Sub.cons rfl rfl (Sub.cons rfl rfl (Sub.cons rfl rfl (Sub.cons rfl rfl (Sub.cons rfl rfl (Sub.cons rfl rfl (Sub.cons rfl rfl Sub.nil))))))))
  intro nd111111101111010001000
  refine AWP.node (ι := Option Addr × Nat) 8 #[true, true, true, true, true, true, true, false, true, true, true, true, false, true, false, false, false, false, true, false, false] (fun ⟨A19, b6⟩ => [(17, true, .rp (f.code.flatMap insCells) (k * 11)), (19, true, .v (.slice A19 0 0)), (22, true, .v (.pointer (some ⟨bw, 0 + 6, none⟩))), (24, true, zn k), (6, true, .v (.pointer (some ⟨b6, 0, none⟩))), (0, true, .v (.pointer (some ⟨bw, 0, none⟩))), (1, true, zn k)]) (fun ⟨A19, b6⟩ => (.row A19 0 0 39 1 [] :: .box b6 101 (([.slice none 0 0]).map T.v) :: .map m (lmT (whL f.code)) :: .box bw 100 (flCells f m aA n fs) :: .row aA n n 101 1 (fs.sls.map swCell) :: .row fs.tA fs.todo.length fs.tc 3 1 (fs.todo.map zn) :: fs.sls.map swRow)) (fun ⟨A19, b6⟩ => A19.isSome = true) ?_ ?_
  ·
    rintro ⟨A19, b6⟩ hA19
    refine AWP.three (i := 7) (j := 12) (k := 17) (by kernel_rfl) rfl rfl rfl ?_ ?_ ?_ 
    ·
      refine Y1 (Yv.loadRpA rfl ag_58 (E rfl rfl) (fun hg => ins_cells hkc)) ?_
      refine nl ?_
      exact AWP.to (nd111111111111010000100 (A19, b6) hA19) (by kernel_rfl) rfl (Sub.cons rfl rfl (Sub.cons rfl rfl (Sub.cons rfl rfl (Sub.cons rfl rfl (Sub.cons rfl rfl (Sub.cons rfl rfl (Sub.cons rfl rfl Sub.nil)))))))
    ·
      refine Y1 (Yv.loadBox rfl ag_98 (i := 3) rfl (E rfl rfl) rfl) ?_
      refine nl ?_
      refine AWP.take (i := 14) rfl (by kernel_rfl) (by kernel_rfl) (by kernel_rfl) rfl rfl (B rfl) (freeIdxRow (i := 4) rfl ss_98 rfl (E rfl rfl) (E rfl rfl) ⟨rfl, by omega⟩) ?_
      exact AWP.to (nd111111101111111000100 (A19, b6) hA19) (by kernel_rfl) rfl (Sub.cons rfl rfl (Sub.cons rfl rfl (Sub.cons rfl rfl (Sub.cons rfl rfl (Sub.cons rfl rfl (Sub.cons rfl rfl Sub.nil))))))
    ·
      refine AWL.allocOp rfl rfl (B rfl) rfl zc_58 (fun b5 => ?_)
      refine AWL.perm (perm_ins (α := Ent) (F := [.row A19 0 0 39 1 []]) (G := (.box b6 101 (([.slice none 0 0]).map T.v) :: .map m (lmT (whL f.code)) :: .box bw 100 (flCells f m aA n fs) :: .row aA n n 101 1 (fs.sls.map swCell) :: .row fs.tA fs.todo.length fs.tc 3 1 (fs.todo.map zn) :: fs.sls.map swRow)) (x := .box b5 58 (([.int .i64 0, .int .i64 0, .int .i64 0, .int .i64 0, .int .i64 0, .int .i64 0, .int .i64 0, .int .i64 0, .int .i64 0, .int .i64 0, .slice none 0 0]).map T.v))) ?_
      refine nl ?_
      exact AWP.to (nd111111101111010001100 (A19, b5, b6) hA19) (by kernel_rfl) rfl (Sub.cons rfl rfl (Sub.cons rfl rfl (Sub.cons rfl rfl (Sub.cons rfl rfl (Sub.cons rfl rfl (Sub.cons rfl rfl (Sub.cons rfl rfl (Sub.cons rfl rfl Sub.nil))))))))
  intro nd111111101111010000100
  refine AWP.node (ι := Unit) 8 #[true, true, true, true, true, true, true, false, false, true, true, true, true, true, true, false, false, false, false, false, false] (fun _ => [(17, true, .rp (f.code.flatMap insCells) (k * 11)), (25, true, .ep (.slice aA n n) (k * 1)), (0, true, .v (.pointer (some ⟨bw, 0, none⟩))), (1, true, zn k)]) (fun _ => (.map m (lmT (whL f.code)) :: .box bw 100 (flCells f m aA n fs) :: .row aA n n 101 1 (fs.sls.map swCell) :: .row fs.tA fs.todo.length fs.tc 3 1 (fs.todo.map zn) :: fs.sls.map swRow)) (fun _ => True) ?_ ?_
  ·
    rintro _ _
    refine AWP.five (i0 := 7) (i1 := 8) (i2 := 15) (i3 := 17) (i4 := 18) (by kernel_rfl) rfl rfl rfl rfl rfl ?_ ?_ ?_ ?_ ?_ 
    ·
      refine Y1 (Yv.loadRpA rfl ag_58 (E rfl rfl) (fun hg => ins_cells hkc)) ?_
      refine nl ?_
      exact AWP.to (nd111111110111111000000 () trivial) (by kernel_rfl) rfl (Sub.cons rfl rfl (Sub.cons rfl rfl (Sub.cons rfl rfl (Sub.cons rfl rfl Sub.nil))))
    ·
      refine AWL.buildSliceRowS rfl rfl (B rfl) rfl el_101 (B rfl) rfl evs0 (Nat.le_of_ble_eq_true rfl) rfl rfl (fun A19 hA19 => ?_)
      refine AWL.perm (perm_ins (α := Ent) (F := []) (G := (.map m (lmT (whL f.code)) :: .box bw 100 (flCells f m aA n fs) :: .row aA n n 101 1 (fs.sls.map swCell) :: .row fs.tA fs.todo.length fs.tc 3 1 (fs.todo.map zn) :: fs.sls.map swRow)) (x := .row A19 0 0 39 1 [])) ?_
      refine nl ?_
      exact AWP.to (nd111111101111111000000 A19 hA19) (by kernel_rfl) rfl (Sub.cons rfl rfl (Sub.cons rfl rfl (Sub.cons rfl rfl (Sub.cons rfl rfl (Sub.cons rfl rfl Sub.nil)))))
    ·
      refine Y1 (Yv.loadEp rfl ag_101 (i := 2) rfl (E rfl rfl) (fun hg => sw_cell hkl)) ?_
      refine nl ?_
      exact AWP.to (nd111111100111111100000 () trivial) (by kernel_rfl) rfl (Sub.cons rfl rfl (Sub.cons rfl rfl (Sub.cons rfl rfl (Sub.cons rfl rfl Sub.nil))))
    ·
      refine AWL.allocOp rfl rfl (B rfl) rfl zc_58 (fun b5 => ?_)
      refine AWL.perm (perm_ins (α := Ent) (F := []) (G := (.map m (lmT (whL f.code)) :: .box bw 100 (flCells f m aA n fs) :: .row aA n n 101 1 (fs.sls.map swCell) :: .row fs.tA fs.todo.length fs.tc 3 1 (fs.todo.map zn) :: fs.sls.map swRow)) (x := .box b5 58 (([.int .i64 0, .int .i64 0, .int .i64 0, .int .i64 0, .int .i64 0, .int .i64 0, .int .i64 0, .int .i64 0, .int .i64 0, .int .i64 0, .slice none 0 0]).map T.v))) ?_
      refine nl ?_
      exact AWP.to (nd111111100111111001000 b5 trivial) (by kernel_rfl) rfl (Sub.cons rfl rfl (Sub.cons rfl rfl (Sub.cons rfl rfl (Sub.cons rfl rfl (Sub.cons rfl rfl Sub.nil)))))
    ·
      refine AWL.allocOp rfl rfl (B rfl) rfl zc_101 (fun b6 => ?_)
      refine AWL.perm (perm_ins (α := Ent) (F := []) (G := (.map m (lmT (whL f.code)) :: .box bw 100 (flCells f m aA n fs) :: .row aA n n 101 1 (fs.sls.map swCell) :: .row fs.tA fs.todo.length fs.tc 3 1 (fs.todo.map zn) :: fs.sls.map swRow)) (x := .box b6 101 (([.slice none 0 0]).map T.v))) ?_
      refine nl ?_
      exact AWP.to (nd111111100111111000100 b6 trivial) (by kernel_rfl) rfl (Sub.cons rfl rfl (Sub.cons rfl rfl (Sub.cons rfl rfl (Sub.cons rfl rfl (Sub.cons rfl rfl Sub.nil)))))
  intro nd111111100111111000000
  refine AWP.node (ι := Nat × Nat) 8 #[true, true, true, true, true, true, true, false, false, true, true, true, false, true, false, false, false, true, true, false, false] (fun ⟨b5, b6⟩ => [(17, true, .rp (f.code.flatMap insCells) (k * 11)), (22, true, .v (.pointer (some ⟨bw, 0 + 6, none⟩))), (24, true, zn k), (5, true, .v (.pointer (some ⟨b5, 0, none⟩))), (6, true, .v (.pointer (some ⟨b6, 0, none⟩))), (0, true, .v (.pointer (some ⟨bw, 0, none⟩))), (1, true, zn k)]) (fun ⟨b5, b6⟩ => (.box b5 58 (([.int .i64 0, .int .i64 0, .int .i64 0, .int .i64 0, .int .i64 0, .int .i64 0, .int .i64 0, .int .i64 0, .int .i64 0, .int .i64 0, .slice none 0 0]).map T.v) :: .box b6 101 (([.slice none 0 0]).map T.v) :: .map m (lmT (whL f.code)) :: .box bw 100 (flCells f m aA n fs) :: .row aA n n 101 1 (fs.sls.map swCell) :: .row fs.tA fs.todo.length fs.tc 3 1 (fs.todo.map zn) :: fs.sls.map swRow)) (fun ⟨b5, b6⟩ => True) ?_ ?_
  ·
    rintro ⟨b5, b6⟩ _
    refine AWP.three (i := 7) (j := 8) (k := 12) (by kernel_rfl) rfl rfl rfl ?_ ?_ ?_ 
    ·
      refine Y1 (Yv.loadRpA rfl ag_58 (E rfl rfl) (fun hg => ins_cells hkc)) ?_
      refine nl ?_
      exact AWP.to (nd111111110111010001100 (b5, b6) trivial) (by kernel_rfl) rfl (Sub.cons rfl rfl (Sub.cons rfl rfl (Sub.cons rfl rfl (Sub.cons rfl rfl (Sub.cons rfl rfl (Sub.cons rfl rfl (Sub.cons rfl rfl Sub.nil)))))))
    ·
      refine AWL.buildSliceRowS rfl rfl (B rfl) rfl el_101 (B rfl) rfl evs0 (Nat.le_of_ble_eq_true rfl) rfl rfl (fun A19 hA19 => ?_)
      refine AWL.perm (perm_ins (α := Ent) (F := []) (G := (.box b5 58 (([.int .i64 0, .int .i64 0, .int .i64 0, .int .i64 0, .int .i64 0, .int .i64 0, .int .i64 0, .int .i64 0, .int .i64 0, .int .i64 0, .slice none 0 0]).map T.v) :: .box b6 101 (([.slice none 0 0]).map T.v) :: .map m (lmT (whL f.code)) :: .box bw 100 (flCells f m aA n fs) :: .row aA n n 101 1 (fs.sls.map swCell) :: .row fs.tA fs.todo.length fs.tc 3 1 (fs.todo.map zn) :: fs.sls.map swRow)) (x := .row A19 0 0 39 1 [])) ?_
      refine nl ?_
      exact AWP.to (nd111111101111010001100 (A19, b5, b6) hA19) (by kernel_rfl) rfl (Sub.cons rfl rfl (Sub.cons rfl rfl (Sub.cons rfl rfl (Sub.cons rfl rfl (Sub.cons rfl rfl (Sub.cons rfl rfl (Sub.cons rfl rfl (Sub.cons rfl rfl Sub.nil))))))))
    ·
      refine Y1 (Yv.loadBox rfl ag_98 (i := 3) rfl (E rfl rfl) rfl) ?_
      refine nl ?_
      refine AWP.take (i := 14) rfl (by kernel_rfl) (by kernel_rfl) (by kernel_rfl) rfl rfl (B rfl) (freeIdxRow (i := 4) rfl ss_98 rfl (E rfl rfl) (E rfl rfl) ⟨rfl, by omega⟩) ?_
      exact AWP.to (nd111111100111111001100 (b5, b6) trivial) (by kernel_rfl) rfl (Sub.cons rfl rfl (Sub.cons rfl rfl (Sub.cons rfl rfl (Sub.cons rfl rfl (Sub.cons rfl rfl (Sub.cons rfl rfl Sub.nil))))))
  intro nd111111100111010001100
  refine AWP.node (ι := Option Addr) 8 #[true, true, true, true, false, true, false, false, true, true, true, true, true, true, true, true, false, false, false, false, false] (fun A19 => [(14, true, .v (.pointer (some ⟨bw, 0 + 0 + 4, none⟩))), (16, true, zn k), (19, true, .v (.slice A19 0 0)), (26, true, swCell (fs.sls.getD k default)), (0, true, .v (.pointer (some ⟨bw, 0, none⟩))), (1, true, zn k)]) (fun A19 => (.row A19 0 0 39 1 [] :: .map m (lmT (whL f.code)) :: .box bw 100 (flCells f m aA n fs) :: .row aA n n 101 1 (fs.sls.map swCell) :: .row fs.tA fs.todo.length fs.tc 3 1 (fs.todo.map zn) :: fs.sls.map swRow)) (fun A19 => A19.isSome = true) ?_ ?_
  ·
    rintro A19 hA19
    refine AWP.four (i0 := 4) (i1 := 16) (i2 := 17) (i3 := 18) (by kernel_rfl) rfl rfl rfl rfl ?_ ?_ ?_ ?_ 
    ·
      refine Y1 (Yv.loadBox rfl ag_49 (i := 2) rfl (E rfl rfl) rfl) ?_
      refine nl ?_
      refine AWP.take (i := 6) rfl (by kernel_rfl) (by kernel_rfl) (by kernel_rfl) rfl rfl (B rfl) (freeIdxSl (j := k) rfl ss_49 (by decide) (E rfl rfl) (E rfl rfl) ⟨rfl, by rw [len_code]; omega⟩) ?_
      exact AWP.to (nd111111101111111100000 A19 hA19) (by kernel_rfl) rfl (Sub.cons rfl rfl (Sub.cons rfl rfl (Sub.cons rfl rfl (Sub.cons rfl rfl (Sub.cons rfl rfl Sub.nil)))))
    ·
      refine AWL.appendRowS (i := 0) rfl rfl (B rfl) rfl el_101 (B rfl) rfl (E rfl rfl) (SrcT.row so_101 (i := k + 5) (sw_row hkl) (E rfl rfl)) (by unfold maxLen; omega) (by omega) hA19 (fun A27 c27 hA27 => ?_)
      rw [Nat.zero_add]
      refine nl ?_
      exact AWP.to (nd111101001111111110000 (A19, A27, c27) ⟨hA19, hA27⟩) (by kernel_rfl) rfl (Sub.cons rfl rfl (Sub.cons rfl rfl (Sub.cons rfl rfl (Sub.cons rfl rfl (Sub.cons rfl rfl Sub.nil)))))
    ·
      refine AWL.allocOp rfl rfl (B rfl) rfl zc_58 (fun b5 => ?_)
      refine AWL.perm (perm_ins (α := Ent) (F := [.row A19 0 0 39 1 []]) (G := (.map m (lmT (whL f.code)) :: .box bw 100 (flCells f m aA n fs) :: .row aA n n 101 1 (fs.sls.map swCell) :: .row fs.tA fs.todo.length fs.tc 3 1 (fs.todo.map zn) :: fs.sls.map swRow)) (x := .box b5 58 (([.int .i64 0, .int .i64 0, .int .i64 0, .int .i64 0, .int .i64 0, .int .i64 0, .int .i64 0, .int .i64 0, .int .i64 0, .int .i64 0, .slice none 0 0]).map T.v))) ?_
      refine nl ?_
      exact AWP.to (nd111101001111111101000 (A19, b5) hA19) (by kernel_rfl) rfl (Sub.cons rfl rfl (Sub.cons rfl rfl (Sub.cons rfl rfl (Sub.cons rfl rfl (Sub.cons rfl rfl (Sub.cons rfl rfl (Sub.cons rfl rfl Sub.nil)))))))
    ·
      refine AWL.allocOp rfl rfl (B rfl) rfl zc_101 (fun b6 => ?_)
      refine AWL.perm (perm_ins (α := Ent) (F := [.row A19 0 0 39 1 []]) (G := (.map m (lmT (whL f.code)) :: .box bw 100 (flCells f m aA n fs) :: .row aA n n 101 1 (fs.sls.map swCell) :: .row fs.tA fs.todo.length fs.tc 3 1 (fs.todo.map zn) :: fs.sls.map swRow)) (x := .box b6 101 (([.slice none 0 0]).map T.v))) ?_
      refine nl ?_
      exact AWP.to (nd111101001111111100100 (A19, b6) hA19) (by kernel_rfl) rfl (Sub.cons rfl rfl (Sub.cons rfl rfl (Sub.cons rfl rfl (Sub.cons rfl rfl (Sub.cons rfl rfl (Sub.cons rfl rfl (Sub.cons rfl rfl Sub.nil)))))))
  intro nd111101001111111100000
  refine AWP.node (ι := Option Addr × Nat) 8 #[true, true, true, true, false, true, false, false, true, true, true, true, true, true, true, false, false, true, false, false, false] (fun ⟨A19, b5⟩ => [(14, true, .v (.pointer (some ⟨bw, 0 + 0 + 4, none⟩))), (16, true, zn k), (19, true, .v (.slice A19 0 0)), (25, true, .ep (.slice aA n n) (k * 1)), (5, true, .v (.pointer (some ⟨b5, 0, none⟩))), (0, true, .v (.pointer (some ⟨bw, 0, none⟩))), (1, true, zn k)]) (fun ⟨A19, b5⟩ => (.row A19 0 0 39 1 [] :: .box b5 58 (([.int .i64 0, .int .i64 0, .int .i64 0, .int .i64 0, .int .i64 0, .int .i64 0, .int .i64 0, .int .i64 0, .int .i64 0, .int .i64 0, .slice none 0 0]).map T.v) :: .map m (lmT (whL f.code)) :: .box bw 100 (flCells f m aA n fs) :: .row aA n n 101 1 (fs.sls.map swCell) :: .row fs.tA fs.todo.length fs.tc 3 1 (fs.todo.map zn) :: fs.sls.map swRow)) (fun ⟨A19, b5⟩ => A19.isSome = true) ?_ ?_
  ·
    rintro ⟨A19, b5⟩ hA19
    refine AWP.three (i := 4) (j := 15) (k := 18) (by kernel_rfl) rfl rfl rfl ?_ ?_ ?_ 
    ·
      refine Y1 (Yv.loadBox rfl ag_49 (i := 3) rfl (E rfl rfl) rfl) ?_
      refine nl ?_
      refine AWP.take (i := 6) rfl (by kernel_rfl) (by kernel_rfl) (by kernel_rfl) rfl rfl (B rfl) (freeIdxSl (j := k) rfl ss_49 (by decide) (E rfl rfl) (E rfl rfl) ⟨rfl, by rw [len_code]; omega⟩) ?_
      exact AWP.to (nd111111101111111001000 (A19, b5) hA19) (by kernel_rfl) rfl (Sub.cons rfl rfl (Sub.cons rfl rfl (Sub.cons rfl rfl (Sub.cons rfl rfl (Sub.cons rfl rfl (Sub.cons rfl rfl Sub.nil))))))
    ·
      refine Y1 (Yv.loadEp rfl ag_101 (i := 4) rfl (E rfl rfl) (fun hg => sw_cell hkl)) ?_
      refine nl ?_
      exact AWP.to (nd111101001111111101000 (A19, b5) hA19) (by kernel_rfl) rfl (Sub.cons rfl rfl (Sub.cons rfl rfl (Sub.cons rfl rfl (Sub.cons rfl rfl (Sub.cons rfl rfl (Sub.cons rfl rfl (Sub.cons rfl rfl Sub.nil)))))))
    ·
      refine AWL.allocOp rfl rfl (B rfl) rfl zc_101 (fun b6 => ?_)
      refine AWL.perm (perm_ins (α := Ent) (F := [.row A19 0 0 39 1 [], .box b5 58 (([.int .i64 0, .int .i64 0, .int .i64 0, .int .i64 0, .int .i64 0, .int .i64 0, .int .i64 0, .int .i64 0, .int .i64 0, .int .i64 0, .slice none 0 0]).map T.v)]) (G := (.map m (lmT (whL f.code)) :: .box bw 100 (flCells f m aA n fs) :: .row aA n n 101 1 (fs.sls.map swCell) :: .row fs.tA fs.todo.length fs.tc 3 1 (fs.todo.map zn) :: fs.sls.map swRow)) (x := .box b6 101 (([.slice none 0 0]).map T.v))) ?_
      refine nl ?_
      exact AWP.to (nd111101001111111001100 (A19, b5, b6) hA19) (by kernel_rfl) rfl (Sub.cons rfl rfl (Sub.cons rfl rfl (Sub.cons rfl rfl (Sub.cons rfl rfl (Sub.cons rfl rfl (Sub.cons rfl rfl (Sub.cons rfl rfl (Sub.cons rfl rfl Sub.nil))))))))
  intro nd111101001111111001000
  refine AWP.node (ι := Option Addr × Nat) 8 #[true, true, true, true, false, true, false, false, true, true, true, true, true, true, true, false, false, false, true, false, false] (fun ⟨A19, b6⟩ => [(14, true, .v (.pointer (some ⟨bw, 0 + 0 + 4, none⟩))), (16, true, zn k), (19, true, .v (.slice A19 0 0)), (25, true, .ep (.slice aA n n) (k * 1)), (6, true, .v (.pointer (some ⟨b6, 0, none⟩))), (0, true, .v (.pointer (some ⟨bw, 0, none⟩))), (1, true, zn k)]) (fun ⟨A19, b6⟩ => (.row A19 0 0 39 1 [] :: .box b6 101 (([.slice none 0 0]).map T.v) :: .map m (lmT (whL f.code)) :: .box bw 100 (flCells f m aA n fs) :: .row aA n n 101 1 (fs.sls.map swCell) :: .row fs.tA fs.todo.length fs.tc 3 1 (fs.todo.map zn) :: fs.sls.map swRow)) (fun ⟨A19, b6⟩ => A19.isSome = true) ?_ ?_
  ·
    rintro ⟨A19, b6⟩ hA19
    refine AWP.three (i := 4) (j := 15) (k := 17) (by kernel_rfl) rfl rfl rfl ?_ ?_ ?_ 
    ·
      refine Y1 (Yv.loadBox rfl ag_49 (i := 3) rfl (E rfl rfl) rfl) ?_
      refine nl ?_
      refine AWP.take (i := 6) rfl (by kernel_rfl) (by kernel_rfl) (by kernel_rfl) rfl rfl (B rfl) (freeIdxSl (j := k) rfl ss_49 (by decide) (E rfl rfl) (E rfl rfl) ⟨rfl, by rw [len_code]; omega⟩) ?_
      exact AWP.to (nd111111101111111000100 (A19, b6) hA19) (by kernel_rfl) rfl (Sub.cons rfl rfl (Sub.cons rfl rfl (Sub.cons rfl rfl (Sub.cons rfl rfl (Sub.cons rfl rfl (Sub.cons rfl rfl Sub.nil))))))
    ·
      refine Y1 (Yv.loadEp rfl ag_101 (i := 4) rfl (E rfl rfl) (fun hg => sw_cell hkl)) ?_
      refine nl ?_
      exact AWP.to (nd111101001111111100100 (A19, b6) hA19) (by kernel_rfl) rfl (Sub.cons rfl rfl (Sub.cons rfl rfl (Sub.cons rfl rfl (Sub.cons rfl rfl (Sub.cons rfl rfl (Sub.cons rfl rfl (Sub.cons rfl rfl Sub.nil)))))))
    ·
      refine AWL.allocOp rfl rfl (B rfl) rfl zc_58 (fun b5 => ?_)
      refine AWL.perm (perm_ins (α := Ent) (F := [.row A19 0 0 39 1 []]) (G := (.box b6 101 (([.slice none 0 0]).map T.v) :: .map m (lmT (whL f.code)) :: .box bw 100 (flCells f m aA n fs) :: .row aA n n 101 1 (fs.sls.map swCell) :: .row fs.tA fs.todo.length fs.tc 3 1 (fs.todo.map zn) :: fs.sls.map swRow)) (x := .box b5 58 (([.int .i64 0, .int .i64 0, .int .i64 0, .int .i64 0, .int .i64 0, .int .i64 0, .int .i64 0, .int .i64 0, .int .i64 0, .int .i64 0, .slice none 0 0]).map T.v))) ?_
      refine nl ?_
      exact AWP.to (nd111101001111111001100 (A19, b5, b6) hA19) (by kernel_rfl) rfl (Sub.cons rfl rfl (Sub.cons rfl rfl (Sub.cons rfl rfl (Sub.cons rfl rfl (Sub.cons rfl rfl (Sub.cons rfl rfl (Sub.cons rfl rfl (Sub.cons rfl rfl Sub.nil))))))))
  intro nd111101001111111000100
  refine AWP.node (ι := Nat) 8 #[true, true, true, true, false, true, false, false, false, true, true, true, true, true, true, true, false, true, false, false, false] (fun b5 => [(14, true, .v (.pointer (some ⟨bw, 0 + 0 + 4, none⟩))), (16, true, zn k), (26, true, swCell (fs.sls.getD k default)), (5, true, .v (.pointer (some ⟨b5, 0, none⟩))), (0, true, .v (.pointer (some ⟨bw, 0, none⟩))), (1, true, zn k)]) (fun b5 => (.box b5 58 (([.int .i64 0, .int .i64 0, .int .i64 0, .int .i64 0, .int .i64 0, .int .i64 0, .int .i64 0, .int .i64 0, .int .i64 0, .int .i64 0, .slice none 0 0]).map T.v) :: .map m (lmT (whL f.code)) :: .box bw 100 (flCells f m aA n fs) :: .row aA n n 101 1 (fs.sls.map swCell) :: .row fs.tA fs.todo.length fs.tc 3 1 (fs.todo.map zn) :: fs.sls.map swRow)) (fun b5 => True) ?_ ?_
  ·
    rintro b5 _
    refine AWP.three (i := 4) (j := 8) (k := 18) (by kernel_rfl) rfl rfl rfl ?_ ?_ ?_ 
    ·
      refine Y1 (Yv.loadBox rfl ag_49 (i := 2) rfl (E rfl rfl) rfl) ?_
      refine nl ?_
      refine AWP.take (i := 6) rfl (by kernel_rfl) (by kernel_rfl) (by kernel_rfl) rfl rfl (B rfl) (freeIdxSl (j := k) rfl ss_49 (by decide) (E rfl rfl) (E rfl rfl) ⟨rfl, by rw [len_code]; omega⟩) ?_
      exact AWP.to (nd111111100111111101000 b5 trivial) (by kernel_rfl) rfl (Sub.cons rfl rfl (Sub.cons rfl rfl (Sub.cons rfl rfl (Sub.cons rfl rfl (Sub.cons rfl rfl Sub.nil)))))
    ·
      refine AWL.buildSliceRowS rfl rfl (B rfl) rfl el_101 (B rfl) rfl evs0 (Nat.le_of_ble_eq_true rfl) rfl rfl (fun A19 hA19 => ?_)
      refine AWL.perm (perm_ins (α := Ent) (F := []) (G := (.box b5 58 (([.int .i64 0, .int .i64 0, .int .i64 0, .int .i64 0, .int .i64 0, .int .i64 0, .int .i64 0, .int .i64 0, .int .i64 0, .int .i64 0, .slice none 0 0]).map T.v) :: .map m (lmT (whL f.code)) :: .box bw 100 (flCells f m aA n fs) :: .row aA n n 101 1 (fs.sls.map swCell) :: .row fs.tA fs.todo.length fs.tc 3 1 (fs.todo.map zn) :: fs.sls.map swRow)) (x := .row A19 0 0 39 1 [])) ?_
      refine nl ?_
      exact AWP.to (nd111101001111111101000 (A19, b5) hA19) (by kernel_rfl) rfl (Sub.cons rfl rfl (Sub.cons rfl rfl (Sub.cons rfl rfl (Sub.cons rfl rfl (Sub.cons rfl rfl (Sub.cons rfl rfl (Sub.cons rfl rfl Sub.nil)))))))
    ·
      refine AWL.allocOp rfl rfl (B rfl) rfl zc_101 (fun b6 => ?_)
      refine AWL.perm (perm_ins (α := Ent) (F := [.box b5 58 (([.int .i64 0, .int .i64 0, .int .i64 0, .int .i64 0, .int .i64 0, .int .i64 0, .int .i64 0, .int .i64 0, .int .i64 0, .int .i64 0, .slice none 0 0]).map T.v)]) (G := (.map m (lmT (whL f.code)) :: .box bw 100 (flCells f m aA n fs) :: .row aA n n 101 1 (fs.sls.map swCell) :: .row fs.tA fs.todo.length fs.tc 3 1 (fs.todo.map zn) :: fs.sls.map swRow)) (x := .box b6 101 (([.slice none 0 0]).map T.v))) ?_
      refine nl ?_
      exact AWP.to (nd111101000111111101100 (b5, b6) trivial) (by kernel_rfl) rfl (Sub.cons rfl rfl (Sub.cons rfl rfl (Sub.cons rfl rfl (Sub.cons rfl rfl (Sub.cons rfl rfl (Sub.cons rfl rfl (Sub.cons rfl rfl Sub.nil)))))))
  intro nd111101000111111101000
  refine AWP.node (ι := Nat) 8 #[true, true, true, true, false, true, false, false, false, true, true, true, true, true, true, true, false, false, true, false, false] (fun b6 => [(14, true, .v (.pointer (some ⟨bw, 0 + 0 + 4, none⟩))), (16, true, zn k), (26, true, swCell (fs.sls.getD k default)), (6, true, .v (.pointer (some ⟨b6, 0, none⟩))), (0, true, .v (.pointer (some ⟨bw, 0, none⟩))), (1, true, zn k)]) (fun b6 => (.box b6 101 (([.slice none 0 0]).map T.v) :: .map m (lmT (whL f.code)) :: .box bw 100 (flCells f m aA n fs) :: .row aA n n 101 1 (fs.sls.map swCell) :: .row fs.tA fs.todo.length fs.tc 3 1 (fs.todo.map zn) :: fs.sls.map swRow)) (fun b6 => True) ?_ ?_
  ·
    rintro b6 _
    refine AWP.three (i := 4) (j := 8) (k := 17) (by kernel_rfl) rfl rfl rfl ?_ ?_ ?_ 
    ·
      refine Y1 (Yv.loadBox rfl ag_49 (i := 2) rfl (E rfl rfl) rfl) ?_
      refine nl ?_
      refine AWP.take (i := 6) rfl (by kernel_rfl) (by kernel_rfl) (by kernel_rfl) rfl rfl (B rfl) (freeIdxSl (j := k) rfl ss_49 (by decide) (E rfl rfl) (E rfl rfl) ⟨rfl, by rw [len_code]; omega⟩) ?_
      exact AWP.to (nd111111100111111100100 b6 trivial) (by kernel_rfl) rfl (Sub.cons rfl rfl (Sub.cons rfl rfl (Sub.cons rfl rfl (Sub.cons rfl rfl (Sub.cons rfl rfl Sub.nil)))))
    ·
      refine AWL.buildSliceRowS rfl rfl (B rfl) rfl el_101 (B rfl) rfl evs0 (Nat.le_of_ble_eq_true rfl) rfl rfl (fun A19 hA19 => ?_)
      refine AWL.perm (perm_ins (α := Ent) (F := []) (G := (.box b6 101 (([.slice none 0 0]).map T.v) :: .map m (lmT (whL f.code)) :: .box bw 100 (flCells f m aA n fs) :: .row aA n n 101 1 (fs.sls.map swCell) :: .row fs.tA fs.todo.length fs.tc 3 1 (fs.todo.map zn) :: fs.sls.map swRow)) (x := .row A19 0 0 39 1 [])) ?_
      refine nl ?_
      exact AWP.to (nd111101001111111100100 (A19, b6) hA19) (by kernel_rfl) rfl (Sub.cons rfl rfl (Sub.cons rfl rfl (Sub.cons rfl rfl (Sub.cons rfl rfl (Sub.cons rfl rfl (Sub.cons rfl rfl (Sub.cons rfl rfl Sub.nil)))))))
    ·
      refine AWL.allocOp rfl rfl (B rfl) rfl zc_58 (fun b5 => ?_)
      refine AWL.perm (perm_ins (α := Ent) (F := []) (G := (.box b6 101 (([.slice none 0 0]).map T.v) :: .map m (lmT (whL f.code)) :: .box bw 100 (flCells f m aA n fs) :: .row aA n n 101 1 (fs.sls.map swCell) :: .row fs.tA fs.todo.length fs.tc 3 1 (fs.todo.map zn) :: fs.sls.map swRow)) (x := .box b5 58 (([.int .i64 0, .int .i64 0, .int .i64 0, .int .i64 0, .int .i64 0, .int .i64 0, .int .i64 0, .int .i64 0, .int .i64 0, .int .i64 0, .slice none 0 0]).map T.v))) ?_
      refine nl ?_
      exact AWP.to (nd111101000111111101100 (b5, b6) trivial) (by kernel_rfl) rfl (Sub.cons rfl rfl (Sub.cons rfl rfl (Sub.cons rfl rfl (Sub.cons rfl rfl (Sub.cons rfl rfl (Sub.cons rfl rfl (Sub.cons rfl rfl Sub.nil)))))))
  intro nd111101000111111100100
  refine AWP.node (ι := Nat × Nat) 8 #[true, true, true, true, false, true, false, false, false, true, true, true, true, true, true, false, false, true, true, false, false] (fun ⟨b5, b6⟩ => [(14, true, .v (.pointer (some ⟨bw, 0 + 0 + 4, none⟩))), (16, true, zn k), (25, true, .ep (.slice aA n n) (k * 1)), (5, true, .v (.pointer (some ⟨b5, 0, none⟩))), (6, true, .v (.pointer (some ⟨b6, 0, none⟩))), (0, true, .v (.pointer (some ⟨bw, 0, none⟩))), (1, true, zn k)]) (fun ⟨b5, b6⟩ => (.box b5 58 (([.int .i64 0, .int .i64 0, .int .i64 0, .int .i64 0, .int .i64 0, .int .i64 0, .int .i64 0, .int .i64 0, .int .i64 0, .int .i64 0, .slice none 0 0]).map T.v) :: .box b6 101 (([.slice none 0 0]).map T.v) :: .map m (lmT (whL f.code)) :: .box bw 100 (flCells f m aA n fs) :: .row aA n n 101 1 (fs.sls.map swCell) :: .row fs.tA fs.todo.length fs.tc 3 1 (fs.todo.map zn) :: fs.sls.map swRow)) (fun ⟨b5, b6⟩ => True) ?_ ?_
  ·
    rintro ⟨b5, b6⟩ _
    refine AWP.three (i := 4) (j := 8) (k := 15) (by kernel_rfl) rfl rfl rfl ?_ ?_ ?_ 
    ·
      refine Y1 (Yv.loadBox rfl ag_49 (i := 3) rfl (E rfl rfl) rfl) ?_
      refine nl ?_
      refine AWP.take (i := 6) rfl (by kernel_rfl) (by kernel_rfl) (by kernel_rfl) rfl rfl (B rfl) (freeIdxSl (j := k) rfl ss_49 (by decide) (E rfl rfl) (E rfl rfl) ⟨rfl, by rw [len_code]; omega⟩) ?_
      exact AWP.to (nd111111100111111001100 (b5, b6) trivial) (by kernel_rfl) rfl (Sub.cons rfl rfl (Sub.cons rfl rfl (Sub.cons rfl rfl (Sub.cons rfl rfl (Sub.cons rfl rfl (Sub.cons rfl rfl Sub.nil))))))
    ·
      refine AWL.buildSliceRowS rfl rfl (B rfl) rfl el_101 (B rfl) rfl evs0 (Nat.le_of_ble_eq_true rfl) rfl rfl (fun A19 hA19 => ?_)
      refine AWL.perm (perm_ins (α := Ent) (F := []) (G := (.box b5 58 (([.int .i64 0, .int .i64 0, .int .i64 0, .int .i64 0, .int .i64 0, .int .i64 0, .int .i64 0, .int .i64 0, .int .i64 0, .int .i64 0, .slice none 0 0]).map T.v) :: .box b6 101 (([.slice none 0 0]).map T.v) :: .map m (lmT (whL f.code)) :: .box bw 100 (flCells f m aA n fs) :: .row aA n n 101 1 (fs.sls.map swCell) :: .row fs.tA fs.todo.length fs.tc 3 1 (fs.todo.map zn) :: fs.sls.map swRow)) (x := .row A19 0 0 39 1 [])) ?_
      refine nl ?_
      exact AWP.to (nd111101001111111001100 (A19, b5, b6) hA19) (by kernel_rfl) rfl (Sub.cons rfl rfl (Sub.cons rfl rfl (Sub.cons rfl rfl (Sub.cons rfl rfl (Sub.cons rfl rfl (Sub.cons rfl rfl (Sub.cons rfl rfl (Sub.cons rfl rfl Sub.nil))))))))
    ·
      refine Y1 (Yv.loadEp rfl ag_101 (i := 4) rfl (E rfl rfl) (fun hg => sw_cell hkl)) ?_
      refine nl ?_
      exact AWP.to (nd111101000111111101100 (b5, b6) trivial) (by kernel_rfl) rfl (Sub.cons rfl rfl (Sub.cons rfl rfl (Sub.cons rfl rfl (Sub.cons rfl rfl (Sub.cons rfl rfl (Sub.cons rfl rfl (Sub.cons rfl rfl Sub.nil)))))))
  intro nd111101000111111001100
  refine AWP.node (ι := Unit) 9 #[true, true, true, true, true, true, true, true, false, true, true, true, false, true, false, false, false, false, false, false, false] (fun _ => [(18, true, .agg (insCells (f.code.getD k default))), (22, true, .v (.pointer (some ⟨bw, 0 + 6, none⟩))), (24, true, zn k), (0, true, .v (.pointer (some ⟨bw, 0, none⟩))), (1, true, zn k)]) (fun _ => (.map m (lmT (whL f.code)) :: .box bw 100 (flCells f m aA n fs) :: .row aA n n 101 1 (fs.sls.map swCell) :: .row fs.tA fs.todo.length fs.tc 3 1 (fs.todo.map zn) :: fs.sls.map swRow)) (fun _ => True) ?_ ?_
  ·
    rintro _ _
    refine AWP.four (i0 := 8) (i1 := 12) (i2 := 17) (i3 := 18) (by kernel_rfl) rfl rfl rfl rfl ?_ ?_ ?_ ?_ 
    ·
      refine AWL.buildSliceRowS rfl rfl (B rfl) rfl el_101 (B rfl) rfl evs0 (Nat.le_of_ble_eq_true rfl) rfl rfl (fun A19 hA19 => ?_)
      refine AWL.perm (perm_ins (α := Ent) (F := []) (G := (.map m (lmT (whL f.code)) :: .box bw 100 (flCells f m aA n fs) :: .row aA n n 101 1 (fs.sls.map swCell) :: .row fs.tA fs.todo.length fs.tc 3 1 (fs.todo.map zn) :: fs.sls.map swRow)) (x := .row A19 0 0 39 1 [])) ?_
      refine nl ?_
      exact AWP.to (nd111111111111010000000 A19 hA19) (by kernel_rfl) rfl (Sub.cons rfl rfl (Sub.cons rfl rfl (Sub.cons rfl rfl (Sub.cons rfl rfl (Sub.cons rfl rfl (Sub.cons rfl rfl Sub.nil))))))
    ·
      refine Y1 (Yv.loadBox rfl ag_98 (i := 1) rfl (E rfl rfl) rfl) ?_
      refine nl ?_
      refine AWP.take (i := 14) rfl (by kernel_rfl) (by kernel_rfl) (by kernel_rfl) rfl rfl (B rfl) (freeIdxRow (i := 2) rfl ss_98 rfl (E rfl rfl) (E rfl rfl) ⟨rfl, by omega⟩) ?_
      exact AWP.to (nd111111110111111000000 () trivial) (by kernel_rfl) rfl (Sub.cons rfl rfl (Sub.cons rfl rfl (Sub.cons rfl rfl (Sub.cons rfl rfl Sub.nil))))
    ·
      refine AWL.allocOp rfl rfl (B rfl) rfl zc_58 (fun b5 => ?_)
      refine AWL.perm (perm_ins (α := Ent) (F := []) (G := (.map m (lmT (whL f.code)) :: .box bw 100 (flCells f m aA n fs) :: .row aA n n 101 1 (fs.sls.map swCell) :: .row fs.tA fs.todo.length fs.tc 3 1 (fs.todo.map zn) :: fs.sls.map swRow)) (x := .box b5 58 (([.int .i64 0, .int .i64 0, .int .i64 0, .int .i64 0, .int .i64 0, .int .i64 0, .int .i64 0, .int .i64 0, .int .i64 0, .int .i64 0, .slice none 0 0]).map T.v))) ?_
      refine nl ?_
      exact AWP.to (nd111111110111010001000 b5 trivial) (by kernel_rfl) rfl (Sub.cons rfl rfl (Sub.cons rfl rfl (Sub.cons rfl rfl (Sub.cons rfl rfl (Sub.cons rfl rfl (Sub.cons rfl rfl Sub.nil))))))
    ·
      refine AWL.allocOp rfl rfl (B rfl) rfl zc_101 (fun b6 => ?_)
      refine AWL.perm (perm_ins (α := Ent) (F := []) (G := (.map m (lmT (whL f.code)) :: .box bw 100 (flCells f m aA n fs) :: .row aA n n 101 1 (fs.sls.map swCell) :: .row fs.tA fs.todo.length fs.tc 3 1 (fs.todo.map zn) :: fs.sls.map swRow)) (x := .box b6 101 (([.slice none 0 0]).map T.v))) ?_
      refine nl ?_
      exact AWP.to (nd111111110111010000100 b6 trivial) (by kernel_rfl) rfl (Sub.cons rfl rfl (Sub.cons rfl rfl (Sub.cons rfl rfl (Sub.cons rfl rfl (Sub.cons rfl rfl (Sub.cons rfl rfl Sub.nil))))))
  intro nd111111110111010000000
  refine AWP.node (ι := Option Addr) 9 #[true, true, true, true, true, true, true, false, true, true, true, true, false, true, false, false, false, false, false, false, false] (fun A19 => [(17, true, .rp (f.code.flatMap insCells) (k * 11)), (19, true, .v (.slice A19 0 0)), (22, true, .v (.pointer (some ⟨bw, 0 + 6, none⟩))), (24, true, zn k), (0, true, .v (.pointer (some ⟨bw, 0, none⟩))), (1, true, zn k)]) (fun A19 => (.row A19 0 0 39 1 [] :: .map m (lmT (whL f.code)) :: .box bw 100 (flCells f m aA n fs) :: .row aA n n 101 1 (fs.sls.map swCell) :: .row fs.tA fs.todo.length fs.tc 3 1 (fs.todo.map zn) :: fs.sls.map swRow)) (fun A19 => A19.isSome = true) ?_ ?_
  ·
    rintro A19 hA19
    refine AWP.four (i0 := 7) (i1 := 12) (i2 := 17) (i3 := 18) (by kernel_rfl) rfl rfl rfl rfl ?_ ?_ ?_ ?_ 
    ·
      refine Y1 (Yv.loadRpA rfl ag_58 (E rfl rfl) (fun hg => ins_cells hkc)) ?_
      refine nl ?_
      exact AWP.to (nd111111111111010000000 A19 hA19) (by kernel_rfl) rfl (Sub.cons rfl rfl (Sub.cons rfl rfl (Sub.cons rfl rfl (Sub.cons rfl rfl (Sub.cons rfl rfl (Sub.cons rfl rfl Sub.nil))))))
    ·
      refine Y1 (Yv.loadBox rfl ag_98 (i := 2) rfl (E rfl rfl) rfl) ?_
      refine nl ?_
      refine AWP.take (i := 14) rfl (by kernel_rfl) (by kernel_rfl) (by kernel_rfl) rfl rfl (B rfl) (freeIdxRow (i := 3) rfl ss_98 rfl (E rfl rfl) (E rfl rfl) ⟨rfl, by omega⟩) ?_
      exact AWP.to (nd111111101111111000000 A19 hA19) (by kernel_rfl) rfl (Sub.cons rfl rfl (Sub.cons rfl rfl (Sub.cons rfl rfl (Sub.cons rfl rfl (Sub.cons rfl rfl Sub.nil)))))
    ·
      refine AWL.allocOp rfl rfl (B rfl) rfl zc_58 (fun b5 => ?_)
      refine AWL.perm (perm_ins (α := Ent) (F := [.row A19 0 0 39 1 []]) (G := (.map m (lmT (whL f.code)) :: .box bw 100 (flCells f m aA n fs) :: .row aA n n 101 1 (fs.sls.map swCell) :: .row fs.tA fs.todo.length fs.tc 3 1 (fs.todo.map zn) :: fs.sls.map swRow)) (x := .box b5 58 (([.int .i64 0, .int .i64 0, .int .i64 0, .int .i64 0, .int .i64 0, .int .i64 0, .int .i64 0, .int .i64 0, .int .i64 0, .int .i64 0, .slice none 0 0]).map T.v))) ?_
      refine nl ?_
      exact AWP.to (nd111111101111010001000 (A19, b5) hA19) (by kernel_rfl) rfl (Sub.cons rfl rfl (Sub.cons rfl rfl (Sub.cons rfl rfl (Sub.cons rfl rfl (Sub.cons rfl rfl (Sub.cons rfl rfl (Sub.cons rfl rfl Sub.nil)))))))
    ·
      refine AWL.allocOp rfl rfl (B rfl) rfl zc_101 (fun b6 => ?_)
      refine AWL.perm (perm_ins (α := Ent) (F := [.row A19 0 0 39 1 []]) (G := (.map m (lmT (whL f.code)) :: .box bw 100 (flCells f m aA n fs) :: .row aA n n 101 1 (fs.sls.map swCell) :: .row fs.tA fs.todo.length fs.tc 3 1 (fs.todo.map zn) :: fs.sls.map swRow)) (x := .box b6 101 (([.slice none 0 0]).map T.v))) ?_
      refine nl ?_
      exact AWP.to (nd111111101111010000100 (A19, b6) hA19) (by kernel_rfl) rfl (Sub.cons rfl rfl (Sub.cons rfl rfl (Sub.cons rfl rfl (Sub.cons rfl rfl (Sub.cons rfl rfl (Sub.cons rfl rfl (Sub.cons rfl rfl Sub.nil)))))))
  intro nd111111101111010000000
  refine AWP.node (ι := Nat) 9 #[true, true, true, true, true, true, true, false, false, true, true, true, false, true, false, false, false, true, false, false, false] (fun b5 => [(17, true, .rp (f.code.flatMap insCells) (k * 11)), (22, true, .v (.pointer (some ⟨bw, 0 + 6, none⟩))), (24, true, zn k), (5, true, .v (.pointer (some ⟨b5, 0, none⟩))), (0, true, .v (.pointer (some ⟨bw, 0, none⟩))), (1, true, zn k)]) (fun b5 => (.box b5 58 (([.int .i64 0, .int .i64 0, .int .i64 0, .int .i64 0, .int .i64 0, .int .i64 0, .int .i64 0, .int .i64 0, .int .i64 0, .int .i64 0, .slice none 0 0]).map T.v) :: .map m (lmT (whL f.code)) :: .box bw 100 (flCells f m aA n fs) :: .row aA n n 101 1 (fs.sls.map swCell) :: .row fs.tA fs.todo.length fs.tc 3 1 (fs.todo.map zn) :: fs.sls.map swRow)) (fun b5 => True) ?_ ?_
  ·
    rintro b5 _
    refine AWP.four (i0 := 7) (i1 := 8) (i2 := 12) (i3 := 18) (by kernel_rfl) rfl rfl rfl rfl ?_ ?_ ?_ ?_ 
    ·
      refine Y1 (Yv.loadRpA rfl ag_58 (E rfl rfl) (fun hg => ins_cells hkc)) ?_
      refine nl ?_
      exact AWP.to (nd111111110111010001000 b5 trivial) (by kernel_rfl) rfl (Sub.cons rfl rfl (Sub.cons rfl rfl (Sub.cons rfl rfl (Sub.cons rfl rfl (Sub.cons rfl rfl (Sub.cons rfl rfl Sub.nil))))))
    ·
      refine AWL.buildSliceRowS rfl rfl (B rfl) rfl el_101 (B rfl) rfl evs0 (Nat.le_of_ble_eq_true rfl) rfl rfl (fun A19 hA19 => ?_)
      refine AWL.perm (perm_ins (α := Ent) (F := []) (G := (.box b5 58 (([.int .i64 0, .int .i64 0, .int .i64 0, .int .i64 0, .int .i64 0, .int .i64 0, .int .i64 0, .int .i64 0, .int .i64 0, .int .i64 0, .slice none 0 0]).map T.v) :: .map m (lmT (whL f.code)) :: .box bw 100 (flCells f m aA n fs) :: .row aA n n 101 1 (fs.sls.map swCell) :: .row fs.tA fs.todo.length fs.tc 3 1 (fs.todo.map zn) :: fs.sls.map swRow)) (x := .row A19 0 0 39 1 [])) ?_
      refine nl ?_
      exact AWP.to (nd111111101111010001000 (A19, b5) hA19) (by kernel_rfl) rfl (Sub.cons rfl rfl (Sub.cons rfl rfl (Sub.cons rfl rfl (Sub.cons rfl rfl (Sub.cons rfl rfl (Sub.cons rfl rfl (Sub.cons rfl rfl Sub.nil)))))))
    ·
      refine Y1 (Yv.loadBox rfl ag_98 (i := 2) rfl (E rfl rfl) rfl) ?_
      refine nl ?_
      refine AWP.take (i := 14) rfl (by kernel_rfl) (by kernel_rfl) (by kernel_rfl) rfl rfl (B rfl) (freeIdxRow (i := 3) rfl ss_98 rfl (E rfl rfl) (E rfl rfl) ⟨rfl, by omega⟩) ?_
      exact AWP.to (nd111111100111111001000 b5 trivial) (by kernel_rfl) rfl (Sub.cons rfl rfl (Sub.cons rfl rfl (Sub.cons rfl rfl (Sub.cons rfl rfl (Sub.cons rfl rfl Sub.nil)))))
    ·
      refine AWL.allocOp rfl rfl (B rfl) rfl zc_101 (fun b6 => ?_)
      refine AWL.perm (perm_ins (α := Ent) (F := [.box b5 58 (([.int .i64 0, .int .i64 0, .int .i64 0, .int .i64 0, .int .i64 0, .int .i64 0, .int .i64 0, .int .i64 0, .int .i64 0, .int .i64 0, .slice none 0 0]).map T.v)]) (G := (.map m (lmT (whL f.code)) :: .box bw 100 (flCells f m aA n fs) :: .row aA n n 101 1 (fs.sls.map swCell) :: .row fs.tA fs.todo.length fs.tc 3 1 (fs.todo.map zn) :: fs.sls.map swRow)) (x := .box b6 101 (([.slice none 0 0]).map T.v))) ?_
      refine nl ?_
      exact AWP.to (nd111111100111010001100 (b5, b6) trivial) (by kernel_rfl) rfl (Sub.cons rfl rfl (Sub.cons rfl rfl (Sub.cons rfl rfl (Sub.cons rfl rfl (Sub.cons rfl rfl (Sub.cons rfl rfl (Sub.cons rfl rfl Sub.nil)))))))
  intro nd111111100111010001000
  refine AWP.node (ι := Nat) 9 #[true, true, true, true, true, true, true, false, false, true, true, true, false, true, false, false, false, false, true, false, false] (fun b6 => [(17, true, .rp (f.code.flatMap insCells) (k * 11)), (22, true, .v (.pointer (some ⟨bw, 0 + 6, none⟩))), (24, true, zn k), (6, true, .v (.pointer (some ⟨b6, 0, none⟩))), (0, true, .v (.pointer (some ⟨bw, 0, none⟩))), (1, true, zn k)]) (fun b6 => (.box b6 101 (([.slice none 0 0]).map T.v) :: .map m (lmT (whL f.code)) :: .box bw 100 (flCells f m aA n fs) :: .row aA n n 101 1 (fs.sls.map swCell) :: .row fs.tA fs.todo.length fs.tc 3 1 (fs.todo.map zn) :: fs.sls.map swRow)) (fun b6 => True) ?_ ?_
  ·
    rintro b6 _
    refine AWP.four (i0 := 7) (i1 := 8) (i2 := 12) (i3 := 17) (by kernel_rfl) rfl rfl rfl rfl ?_ ?_ ?_ ?_ 
    ·
      refine Y1 (Yv.loadRpA rfl ag_58 (E rfl rfl) (fun hg => ins_cells hkc)) ?_
      refine nl ?_
      exact AWP.to (nd111111110111010000100 b6 trivial) (by kernel_rfl) rfl (Sub.cons rfl rfl (Sub.cons rfl rfl (Sub.cons rfl rfl (Sub.cons rfl rfl (Sub.cons rfl rfl (Sub.cons rfl rfl Sub.nil))))))
    ·
      refine AWL.buildSliceRowS rfl rfl (B rfl) rfl el_101 (B rfl) rfl evs0 (Nat.le_of_ble_eq_true rfl) rfl rfl (fun A19 hA19 => ?_)
      refine AWL.perm (perm_ins (α := Ent) (F := []) (G := (.box b6 101 (([.slice none 0 0]).map T.v) :: .map m (lmT (whL f.code)) :: .box bw 100 (flCells f m aA n fs) :: .row aA n n 101 1 (fs.sls.map swCell) :: .row fs.tA fs.todo.length fs.tc 3 1 (fs.todo.map zn) :: fs.sls.map swRow)) (x := .row A19 0 0 39 1 [])) ?_
      refine nl ?_
      exact AWP.to (nd111111101111010000100 (A19, b6) hA19) (by kernel_rfl) rfl (Sub.cons rfl rfl (Sub.cons rfl rfl (Sub.cons rfl rfl (Sub.cons rfl rfl (Sub.cons rfl rfl (Sub.cons rfl rfl (Sub.cons rfl rfl Sub.nil)))))))
    ·
      refine Y1 (Yv.loadBox rfl ag_98 (i := 2) rfl (E rfl rfl) rfl) ?_
      refine nl ?_
      refine AWP.take (i := 14) rfl (by kernel_rfl) (by kernel_rfl) (by kernel_rfl) rfl rfl (B rfl) (freeIdxRow (i := 3) rfl ss_98 rfl (E rfl rfl) (E rfl rfl) ⟨rfl, by omega⟩) ?_
      exact AWP.to (nd111111100111111000100 b6 trivial) (by kernel_rfl) rfl (Sub.cons rfl rfl (Sub.cons rfl rfl (Sub.cons rfl rfl (Sub.cons rfl rfl (Sub.cons rfl rfl Sub.nil)))))
    ·
      refine AWL.allocOp rfl rfl (B rfl) rfl zc_58 (fun b5 => ?_)
      refine AWL.perm (perm_ins (α := Ent) (F := []) (G := (.box b6 101 (([.slice none 0 0]).map T.v) :: .map m (lmT (whL f.code)) :: .box bw 100 (flCells f m aA n fs) :: .row aA n n 101 1 (fs.sls.map swCell) :: .row fs.tA fs.todo.length fs.tc 3 1 (fs.todo.map zn) :: fs.sls.map swRow)) (x := .box b5 58 (([.int .i64 0, .int .i64 0, .int .i64 0, .int .i64 0, .int .i64 0, .int .i64 0, .int .i64 0, .int .i64 0, .int .i64 0, .int .i64 0, .slice none 0 0]).map T.v))) ?_
      refine nl ?_
      exact AWP.to (nd111111100111010001100 (b5, b6) trivial) (by kernel_rfl) rfl (Sub.cons rfl rfl (Sub.cons rfl rfl (Sub.cons rfl rfl (Sub.cons rfl rfl (Sub.cons rfl rfl (Sub.cons rfl rfl (Sub.cons rfl rfl Sub.nil)))))))
  intro nd111111100111010000100
  refine AWP.node (ι := Option Addr) 9 #[true, true, true, true, false, true, false, false, true, true, true, true, true, true, true, false, false, false, false, false, false] (fun A19 => [(14, true, .v (.pointer (some ⟨bw, 0 + 0 + 4, none⟩))), (16, true, zn k), (19, true, .v (.slice A19 0 0)), (25, true, .ep (.slice aA n n) (k * 1)), (0, true, .v (.pointer (some ⟨bw, 0, none⟩))), (1, true, zn k)]) (fun A19 => (.row A19 0 0 39 1 [] :: .map m (lmT (whL f.code)) :: .box bw 100 (flCells f m aA n fs) :: .row aA n n 101 1 (fs.sls.map swCell) :: .row fs.tA fs.todo.length fs.tc 3 1 (fs.todo.map zn) :: fs.sls.map swRow)) (fun A19 => A19.isSome = true) ?_ ?_
  ·
    rintro A19 hA19
    refine AWP.four (i0 := 4) (i1 := 15) (i2 := 17) (i3 := 18) (by kernel_rfl) rfl rfl rfl rfl ?_ ?_ ?_ ?_ 
    ·
      refine Y1 (Yv.loadBox rfl ag_49 (i := 2) rfl (E rfl rfl) rfl) ?_
      refine nl ?_
      refine AWP.take (i := 6) rfl (by kernel_rfl) (by kernel_rfl) (by kernel_rfl) rfl rfl (B rfl) (freeIdxSl (j := k) rfl ss_49 (by decide) (E rfl rfl) (E rfl rfl) ⟨rfl, by rw [len_code]; omega⟩) ?_
      exact AWP.to (nd111111101111111000000 A19 hA19) (by kernel_rfl) rfl (Sub.cons rfl rfl (Sub.cons rfl rfl (Sub.cons rfl rfl (Sub.cons rfl rfl (Sub.cons rfl rfl Sub.nil)))))
    ·
      refine Y1 (Yv.loadEp rfl ag_101 (i := 3) rfl (E rfl rfl) (fun hg => sw_cell hkl)) ?_
      refine nl ?_
      exact AWP.to (nd111101001111111100000 A19 hA19) (by kernel_rfl) rfl (Sub.cons rfl rfl (Sub.cons rfl rfl (Sub.cons rfl rfl (Sub.cons rfl rfl (Sub.cons rfl rfl (Sub.cons rfl rfl Sub.nil))))))
    ·
      refine AWL.allocOp rfl rfl (B rfl) rfl zc_58 (fun b5 => ?_)
      refine AWL.perm (perm_ins (α := Ent) (F := [.row A19 0 0 39 1 []]) (G := (.map m (lmT (whL f.code)) :: .box bw 100 (flCells f m aA n fs) :: .row aA n n 101 1 (fs.sls.map swCell) :: .row fs.tA fs.todo.length fs.tc 3 1 (fs.todo.map zn) :: fs.sls.map swRow)) (x := .box b5 58 (([.int .i64 0, .int .i64 0, .int .i64 0, .int .i64 0, .int .i64 0, .int .i64 0, .int .i64 0, .int .i64 0, .int .i64 0, .int .i64 0, .slice none 0 0]).map T.v))) ?_
      refine nl ?_
      exact AWP.to (nd111101001111111001000 (A19, b5) hA19) (by kernel_rfl) rfl (Sub.cons rfl rfl (Sub.cons rfl rfl (Sub.cons rfl rfl (Sub.cons rfl rfl (Sub.cons rfl rfl (Sub.cons rfl rfl (Sub.cons rfl rfl Sub.nil)))))))
    ·
      refine AWL.allocOp rfl rfl (B rfl) rfl zc_101 (fun b6 => ?_)
      refine AWL.perm (perm_ins (α := Ent) (F := [.row A19 0 0 39 1 []]) (G := (.map m (lmT (whL f.code)) :: .box bw 100 (flCells f m aA n fs) :: .row aA n n 101 1 (fs.sls.map swCell) :: .row fs.tA fs.todo.length fs.tc 3 1 (fs.todo.map zn) :: fs.sls.map swRow)) (x := .box b6 101 (([.slice none 0 0]).map T.v))) ?_
      refine nl ?_
      exact AWP.to (nd111101001111111000100 (A19, b6) hA19) (by kernel_rfl) rfl (Sub.cons rfl rfl (Sub.cons rfl rfl (Sub.cons rfl rfl (Sub.cons rfl rfl (Sub.cons rfl rfl (Sub.cons rfl rfl (Sub.cons rfl rfl Sub.nil)))))))
  intro nd111101001111111000000
  refine AWP.node (ι := Option Addr × Nat × Nat) 9 #[true, true, true, true, false, true, false, false, true, true, true, true, false, true, false, false, false, true, true, false, false] (fun ⟨A19, b5, b6⟩ => [(14, true, .v (.pointer (some ⟨bw, 0 + 0 + 4, none⟩))), (16, true, zn k), (19, true, .v (.slice A19 0 0)), (22, true, .v (.pointer (some ⟨bw, 0 + 6, none⟩))), (24, true, zn k), (5, true, .v (.pointer (some ⟨b5, 0, none⟩))), (6, true, .v (.pointer (some ⟨b6, 0, none⟩))), (0, true, .v (.pointer (some ⟨bw, 0, none⟩))), (1, true, zn k)]) (fun ⟨A19, b5, b6⟩ => (.row A19 0 0 39 1 [] :: .box b5 58 (([.int .i64 0, .int .i64 0, .int .i64 0, .int .i64 0, .int .i64 0, .int .i64 0, .int .i64 0, .int .i64 0, .int .i64 0, .int .i64 0, .slice none 0 0]).map T.v) :: .box b6 101 (([.slice none 0 0]).map T.v) :: .map m (lmT (whL f.code)) :: .box bw 100 (flCells f m aA n fs) :: .row aA n n 101 1 (fs.sls.map swCell) :: .row fs.tA fs.todo.length fs.tc 3 1 (fs.todo.map zn) :: fs.sls.map swRow)) (fun ⟨A19, b5, b6⟩ => A19.isSome = true) ?_ ?_
  ·
    rintro ⟨A19, b5, b6⟩ hA19
    refine AWP.two (i := 4) (j := 12) (by kernel_rfl) rfl rfl ?_ ?_ 
    ·
      refine Y1 (Yv.loadBox rfl ag_49 (i := 4) rfl (E rfl rfl) rfl) ?_
      refine nl ?_
      refine AWP.take (i := 6) rfl (by kernel_rfl) (by kernel_rfl) (by kernel_rfl) rfl rfl (B rfl) (freeIdxSl (j := k) rfl ss_49 (by decide) (E rfl rfl) (E rfl rfl) ⟨rfl, by rw [len_code]; omega⟩) ?_
      exact AWP.to (nd111111101111010001100 (A19, b5, b6) hA19) (by kernel_rfl) rfl (Sub.cons rfl rfl (Sub.cons rfl rfl (Sub.cons rfl rfl (Sub.cons rfl rfl (Sub.cons rfl rfl (Sub.cons rfl rfl (Sub.cons rfl rfl (Sub.cons rfl rfl Sub.nil))))))))
    ·
      refine Y1 (Yv.loadBox rfl ag_98 (i := 4) rfl (E rfl rfl) rfl) ?_
      refine nl ?_
      refine AWP.take (i := 14) rfl (by kernel_rfl) (by kernel_rfl) (by kernel_rfl) rfl rfl (B rfl) (freeIdxRow (i := 5) rfl ss_98 rfl (E rfl rfl) (E rfl rfl) ⟨rfl, by omega⟩) ?_
      exact AWP.to (nd111101001111111001100 (A19, b5, b6) hA19) (by kernel_rfl) rfl (Sub.cons rfl rfl (Sub.cons rfl rfl (Sub.cons rfl rfl (Sub.cons rfl rfl (Sub.cons rfl rfl (Sub.cons rfl rfl (Sub.cons rfl rfl (Sub.cons rfl rfl Sub.nil))))))))
  intro nd111101001111010001100
  refine AWP.node (ι := Unit) 9 #[true, true, true, true, false, true, false, false, false, true, true, true, true, true, true, true, false, false, false, false, false] (fun _ => [(14, true, .v (.pointer (some ⟨bw, 0 + 0 + 4, none⟩))), (16, true, zn k), (26, true, swCell (fs.sls.getD k default)), (0, true, .v (.pointer (some ⟨bw, 0, none⟩))), (1, true, zn k)]) (fun _ => (.map m (lmT (whL f.code)) :: .box bw 100 (flCells f m aA n fs) :: .row aA n n 101 1 (fs.sls.map swCell) :: .row fs.tA fs.todo.length fs.tc 3 1 (fs.todo.map zn) :: fs.sls.map swRow)) (fun _ => True) ?_ ?_
  ·
    rintro _ _
    refine AWP.four (i0 := 4) (i1 := 8) (i2 := 17) (i3 := 18) (by kernel_rfl) rfl rfl rfl rfl ?_ ?_ ?_ ?_ 
    ·
      refine Y1 (Yv.loadBox rfl ag_49 (i := 1) rfl (E rfl rfl) rfl) ?_
      refine nl ?_
      refine AWP.take (i := 6) rfl (by kernel_rfl) (by kernel_rfl) (by kernel_rfl) rfl rfl (B rfl) (freeIdxSl (j := k) rfl ss_49 (by decide) (E rfl rfl) (E rfl rfl) ⟨rfl, by rw [len_code]; omega⟩) ?_
      exact AWP.to (nd111111100111111100000 () trivial) (by kernel_rfl) rfl (Sub.cons rfl rfl (Sub.cons rfl rfl (Sub.cons rfl rfl (Sub.cons rfl rfl Sub.nil))))
    ·
      refine AWL.buildSliceRowS rfl rfl (B rfl) rfl el_101 (B rfl) rfl evs0 (Nat.le_of_ble_eq_true rfl) rfl rfl (fun A19 hA19 => ?_)
      refine AWL.perm (perm_ins (α := Ent) (F := []) (G := (.map m (lmT (whL f.code)) :: .box bw 100 (flCells f m aA n fs) :: .row aA n n 101 1 (fs.sls.map swCell) :: .row fs.tA fs.todo.length fs.tc 3 1 (fs.todo.map zn) :: fs.sls.map swRow)) (x := .row A19 0 0 39 1 [])) ?_
      refine nl ?_
      exact AWP.to (nd111101001111111100000 A19 hA19) (by kernel_rfl) rfl (Sub.cons rfl rfl (Sub.cons rfl rfl (Sub.cons rfl rfl (Sub.cons rfl rfl (Sub.cons rfl rfl (Sub.cons rfl rfl Sub.nil))))))
    ·
      refine AWL.allocOp rfl rfl (B rfl) rfl zc_58 (fun b5 => ?_)
      refine AWL.perm (perm_ins (α := Ent) (F := []) (G := (.map m (lmT (whL f.code)) :: .box bw 100 (flCells f m aA n fs) :: .row aA n n 101 1 (fs.sls.map swCell) :: .row fs.tA fs.todo.length fs.tc 3 1 (fs.todo.map zn) :: fs.sls.map swRow)) (x := .box b5 58 (([.int .i64 0, .int .i64 0, .int .i64 0, .int .i64 0, .int .i64 0, .int .i64 0, .int .i64 0, .int .i64 0, .int .i64 0, .int .i64 0, .slice none 0 0]).map T.v))) ?_
      refine nl ?_
      exact AWP.to (nd111101000111111101000 b5 trivial) (by kernel_rfl) rfl (Sub.cons rfl rfl (Sub.cons rfl rfl (Sub.cons rfl rfl (Sub.cons rfl rfl (Sub.cons rfl rfl (Sub.cons rfl rfl Sub.nil))))))
    ·
      refine AWL.allocOp rfl rfl (B rfl) rfl zc_101 (fun b6 => ?_)
      refine AWL.perm (perm_ins (α := Ent) (F := []) (G := (.map m (lmT (whL f.code)) :: .box bw 100 (flCells f m aA n fs) :: .row aA n n 101 1 (fs.sls.map swCell) :: .row fs.tA fs.todo.length fs.tc 3 1 (fs.todo.map zn) :: fs.sls.map swRow)) (x := .box b6 101 (([.slice none 0 0]).map T.v))) ?_
      refine nl ?_
      exact AWP.to (nd111101000111111100100 b6 trivial) (by kernel_rfl) rfl (Sub.cons rfl rfl (Sub.cons rfl rfl (Sub.cons rfl rfl (Sub.cons rfl rfl (Sub.cons rfl rfl (Sub.cons rfl rfl Sub.nil))))))
  intro nd111101000111111100000
  refine AWP.node (ι := Nat) 9 #[true, true, true, true, false, true, false, false, false, true, true, true, true, true, true, false, false, true, false, false, false] (fun b5 => [(14, true, .v (.pointer (some ⟨bw, 0 + 0 + 4, none⟩))), (16, true, zn k), (25, true, .ep (.slice aA n n) (k * 1)), (5, true, .v (.pointer (some ⟨b5, 0, none⟩))), (0, true, .v (.pointer (some ⟨bw, 0, none⟩))), (1, true, zn k)]) (fun b5 => (.box b5 58 (([.int .i64 0, .int .i64 0, .int .i64 0, .int .i64 0, .int .i64 0, .int .i64 0, .int .i64 0, .int .i64 0, .int .i64 0, .int .i64 0, .slice none 0 0]).map T.v) :: .map m (lmT (whL f.code)) :: .box bw 100 (flCells f m aA n fs) :: .row aA n n 101 1 (fs.sls.map swCell) :: .row fs.tA fs.todo.length fs.tc 3 1 (fs.todo.map zn) :: fs.sls.map swRow)) (fun b5 => True) ?_ ?_
  ·
    rintro b5 _
    refine AWP.four (i0 := 4) (i1 := 8) (i2 := 15) (i3 := 18) (by kernel_rfl) rfl rfl rfl rfl ?_ ?_ ?_ ?_ 
    ·
      refine Y1 (Yv.loadBox rfl ag_49 (i := 2) rfl (E rfl rfl) rfl) ?_
      refine nl ?_
      refine AWP.take (i := 6) rfl (by kernel_rfl) (by kernel_rfl) (by kernel_rfl) rfl rfl (B rfl) (freeIdxSl (j := k) rfl ss_49 (by decide) (E rfl rfl) (E rfl rfl) ⟨rfl, by rw [len_code]; omega⟩) ?_
      exact AWP.to (nd111111100111111001000 b5 trivial) (by kernel_rfl) rfl (Sub.cons rfl rfl (Sub.cons rfl rfl (Sub.cons rfl rfl (Sub.cons rfl rfl (Sub.cons rfl rfl Sub.nil)))))
    ·
      refine AWL.buildSliceRowS rfl rfl (B rfl) rfl el_101 (B rfl) rfl evs0 (Nat.le_of_ble_eq_true rfl) rfl rfl (fun A19 hA19 => ?_)
      refine AWL.perm (perm_ins (α := Ent) (F := []) (G := (.box b5 58 (([.int .i64 0, .int .i64 0, .int .i64 0, .int .i64 0, .int .i64 0, .int .i64 0, .int .i64 0, .int .i64 0, .int .i64 0, .int .i64 0, .slice none 0 0]).map T.v) :: .map m (lmT (whL f.code)) :: .box bw 100 (flCells f m aA n fs) :: .row aA n n 101 1 (fs.sls.map swCell) :: .row fs.tA fs.todo.length fs.tc 3 1 (fs.todo.map zn) :: fs.sls.map swRow)) (x := .row A19 0 0 39 1 [])) ?_
      refine nl ?_
      exact AWP.to (nd111101001111111001000 (A19, b5) hA19) (by kernel_rfl) rfl (Sub.cons rfl rfl (Sub.cons rfl rfl (Sub.cons rfl rfl (Sub.cons rfl rfl (Sub.cons rfl rfl (Sub.cons rfl rfl (Sub.cons rfl rfl Sub.nil)))))))
    ·
      refine Y1 (Yv.loadEp rfl ag_101 (i := 3) rfl (E rfl rfl) (fun hg => sw_cell hkl)) ?_
      refine nl ?_
      exact AWP.to (nd111101000111111101000 b5 trivial) (by kernel_rfl) rfl (Sub.cons rfl rfl (Sub.cons rfl rfl (Sub.cons rfl rfl (Sub.cons rfl rfl (Sub.cons rfl rfl (Sub.cons rfl rfl Sub.nil))))))
    ·
      refine AWL.allocOp rfl rfl (B rfl) rfl zc_101 (fun b6 => ?_)
      refine AWL.perm (perm_ins (α := Ent) (F := [.box b5 58 (([.int .i64 0, .int .i64 0, .int .i64 0, .int .i64 0, .int .i64 0, .int .i64 0, .int .i64 0, .int .i64 0, .int .i64 0, .int .i64 0, .slice none 0 0]).map T.v)]) (G := (.map m (lmT (whL f.code)) :: .box bw 100 (flCells f m aA n fs) :: .row aA n n 101 1 (fs.sls.map swCell) :: .row fs.tA fs.todo.length fs.tc 3 1 (fs.todo.map zn) :: fs.sls.map swRow)) (x := .box b6 101 (([.slice none 0 0]).map T.v))) ?_
      refine nl ?_
      exact AWP.to (nd111101000111111001100 (b5, b6) trivial) (by kernel_rfl) rfl (Sub.cons rfl rfl (Sub.cons rfl rfl (Sub.cons rfl rfl (Sub.cons rfl rfl (Sub.cons rfl rfl (Sub.cons rfl rfl (Sub.cons rfl rfl Sub.nil)))))))
  intro nd111101000111111001000
  refine AWP.node (ι := Nat) 9 #[true, true, true, true, false, true, false, false, false, true, true, true, true, true, true, false, false, false, true, false, false] (fun b6 => [(14, true, .v (.pointer (some ⟨bw, 0 + 0 + 4, none⟩))), (16, true, zn k), (25, true, .ep (.slice aA n n) (k * 1)), (6, true, .v (.pointer (some ⟨b6, 0, none⟩))), (0, true, .v (.pointer (some ⟨bw, 0, none⟩))), (1, true, zn k)]) (fun b6 => (.box b6 101 (([.slice none 0 0]).map T.v) :: .map m (lmT (whL f.code)) :: .box bw 100 (flCells f m aA n fs) :: .row aA n n 101 1 (fs.sls.map swCell) :: .row fs.tA fs.todo.length fs.tc 3 1 (fs.todo.map zn) :: fs.sls.map swRow)) (fun b6 => True) ?_ ?_
  ·
    rintro b6 _
    refine AWP.four (i0 := 4) (i1 := 8) (i2 := 15) (i3 := 17) (by kernel_rfl) rfl rfl rfl rfl ?_ ?_ ?_ ?_ 
    ·
      refine Y1 (Yv.loadBox rfl ag_49 (i := 2) rfl (E rfl rfl) rfl) ?_
      refine nl ?_
      refine AWP.take (i := 6) rfl (by kernel_rfl) (by kernel_rfl) (by kernel_rfl) rfl rfl (B rfl) (freeIdxSl (j := k) rfl ss_49 (by decide) (E rfl rfl) (E rfl rfl) ⟨rfl, by rw [len_code]; omega⟩) ?_
      exact AWP.to (nd111111100111111000100 b6 trivial) (by kernel_rfl) rfl (Sub.cons rfl rfl (Sub.cons rfl rfl (Sub.cons rfl rfl (Sub.cons rfl rfl (Sub.cons rfl rfl Sub.nil)))))
    ·
      refine AWL.buildSliceRowS rfl rfl (B rfl) rfl el_101 (B rfl) rfl evs0 (Nat.le_of_ble_eq_true rfl) rfl rfl (fun A19 hA19 => ?_)
      refine AWL.perm (perm_ins (α := Ent) (F := []) (G := (.box b6 101 (([.slice none 0 0]).map T.v) :: .map m (lmT (whL f.code)) :: .box bw 100 (flCells f m aA n fs) :: .row aA n n 101 1 (fs.sls.map swCell) :: .row fs.tA fs.todo.length fs.tc 3 1 (fs.todo.map zn) :: fs.sls.map swRow)) (x := .row A19 0 0 39 1 [])) ?_
      refine nl ?_
      exact AWP.to (nd111101001111111000100 (A19, b6) hA19) (by kernel_rfl) rfl (Sub.cons rfl rfl (Sub.cons rfl rfl (Sub.cons rfl rfl (Sub.cons rfl rfl (Sub.cons rfl rfl (Sub.cons rfl rfl (Sub.cons rfl rfl Sub.nil)))))))
    ·
      refine Y1 (Yv.loadEp rfl ag_101 (i := 3) rfl (E rfl rfl) (fun hg => sw_cell hkl)) ?_
      refine nl ?_
      exact AWP.to (nd111101000111111100100 b6 trivial) (by kernel_rfl) rfl (Sub.cons rfl rfl (Sub.cons rfl rfl (Sub.cons rfl rfl (Sub.cons rfl rfl (Sub.cons rfl rfl (Sub.cons rfl rfl Sub.nil))))))
    ·
      refine AWL.allocOp rfl rfl (B rfl) rfl zc_58 (fun b5 => ?_)
      refine AWL.perm (perm_ins (α := Ent) (F := []) (G := (.box b6 101 (([.slice none 0 0]).map T.v) :: .map m (lmT (whL f.code)) :: .box bw 100 (flCells f m aA n fs) :: .row aA n n 101 1 (fs.sls.map swCell) :: .row fs.tA fs.todo.length fs.tc 3 1 (fs.todo.map zn) :: fs.sls.map swRow)) (x := .box b5 58 (([.int .i64 0, .int .i64 0, .int .i64 0, .int .i64 0, .int .i64 0, .int .i64 0, .int .i64 0, .int .i64 0, .int .i64 0, .int .i64 0, .slice none 0 0]).map T.v))) ?_
      refine nl ?_
      exact AWP.to (nd111101000111111001100 (b5, b6) trivial) (by kernel_rfl) rfl (Sub.cons rfl rfl (Sub.cons rfl rfl (Sub.cons rfl rfl (Sub.cons rfl rfl (Sub.cons rfl rfl (Sub.cons rfl rfl (Sub.cons rfl rfl Sub.nil)))))))
  intro nd111101000111111000100
  refine AWP.node (ι := Unit) 10 #[true, true, true, true, true, true, true, false, false, true, true, true, false, true, false, false, false, false, false, false, false] (fun _ => [(17, true, .rp (f.code.flatMap insCells) (k * 11)), (22, true, .v (.pointer (some ⟨bw, 0 + 6, none⟩))), (24, true, zn k), (0, true, .v (.pointer (some ⟨bw, 0, none⟩))), (1, true, zn k)]) (fun _ => (.map m (lmT (whL f.code)) :: .box bw 100 (flCells f m aA n fs) :: .row aA n n 101 1 (fs.sls.map swCell) :: .row fs.tA fs.todo.length fs.tc 3 1 (fs.todo.map zn) :: fs.sls.map swRow)) (fun _ => True) ?_ ?_
  ·
    rintro _ _
    refine AWP.five (i0 := 7) (i1 := 8) (i2 := 12) (i3 := 17) (i4 := 18) (by kernel_rfl) rfl rfl rfl rfl rfl ?_ ?_ ?_ ?_ ?_ 
    ·
      refine Y1 (Yv.loadRpA rfl ag_58 (E rfl rfl) (fun hg => ins_cells hkc)) ?_
      refine nl ?_
      exact AWP.to (nd111111110111010000000 () trivial) (by kernel_rfl) rfl (Sub.cons rfl rfl (Sub.cons rfl rfl (Sub.cons rfl rfl (Sub.cons rfl rfl (Sub.cons rfl rfl Sub.nil)))))
    ·
      refine AWL.buildSliceRowS rfl rfl (B rfl) rfl el_101 (B rfl) rfl evs0 (Nat.le_of_ble_eq_true rfl) rfl rfl (fun A19 hA19 => ?_)
      refine AWL.perm (perm_ins (α := Ent) (F := []) (G := (.map m (lmT (whL f.code)) :: .box bw 100 (flCells f m aA n fs) :: .row aA n n 101 1 (fs.sls.map swCell) :: .row fs.tA fs.todo.length fs.tc 3 1 (fs.todo.map zn) :: fs.sls.map swRow)) (x := .row A19 0 0 39 1 [])) ?_
      refine nl ?_
      exact AWP.to (nd111111101111010000000 A19 hA19) (by kernel_rfl) rfl (Sub.cons rfl rfl (Sub.cons rfl rfl (Sub.cons rfl rfl (Sub.cons rfl rfl (Sub.cons rfl rfl (Sub.cons rfl rfl Sub.nil))))))
    ·
      refine Y1 (Yv.loadBox rfl ag_98 (i := 1) rfl (E rfl rfl) rfl) ?_
      refine nl ?_
      refine AWP.take (i := 14) rfl (by kernel_rfl) (by kernel_rfl) (by kernel_rfl) rfl rfl (B rfl) (freeIdxRow (i := 2) rfl ss_98 rfl (E rfl rfl) (E rfl rfl) ⟨rfl, by omega⟩) ?_
      exact AWP.to (nd111111100111111000000 () trivial) (by kernel_rfl) rfl (Sub.cons rfl rfl (Sub.cons rfl rfl (Sub.cons rfl rfl (Sub.cons rfl rfl Sub.nil))))
    ·
      refine AWL.allocOp rfl rfl (B rfl) rfl zc_58 (fun b5 => ?_)
      refine AWL.perm (perm_ins (α := Ent) (F := []) (G := (.map m (lmT (whL f.code)) :: .box bw 100 (flCells f m aA n fs) :: .row aA n n 101 1 (fs.sls.map swCell) :: .row fs.tA fs.todo.length fs.tc 3 1 (fs.todo.map zn) :: fs.sls.map swRow)) (x := .box b5 58 (([.int .i64 0, .int .i64 0, .int .i64 0, .int .i64 0, .int .i64 0, .int .i64 0, .int .i64 0, .int .i64 0, .int .i64 0, .int .i64 0, .slice none 0 0]).map T.v))) ?_
      refine nl ?_
      exact AWP.to (nd111111100111010001000 b5 trivial) (by kernel_rfl) rfl (Sub.cons rfl rfl (Sub.cons rfl rfl (Sub.cons rfl rfl (Sub.cons rfl rfl (Sub.cons rfl rfl (Sub.cons rfl rfl Sub.nil))))))
    ·
      refine AWL.allocOp rfl rfl (B rfl) rfl zc_101 (fun b6 => ?_)
      refine AWL.perm (perm_ins (α := Ent) (F := []) (G := (.map m (lmT (whL f.code)) :: .box bw 100 (flCells f m aA n fs) :: .row aA n n 101 1 (fs.sls.map swCell) :: .row fs.tA fs.todo.length fs.tc 3 1 (fs.todo.map zn) :: fs.sls.map swRow)) (x := .box b6 101 (([.slice none 0 0]).map T.v))) ?_
      refine nl ?_
      exact AWP.to (nd111111100111010000100 b6 trivial) (by kernel_rfl) rfl (Sub.cons rfl rfl (Sub.cons rfl rfl (Sub.cons rfl rfl (Sub.cons rfl rfl (Sub.cons rfl rfl (Sub.cons rfl rfl Sub.nil))))))
  intro nd111111100111010000000
  refine AWP.node (ι := Option Addr × Nat) 10 #[true, true, true, true, false, true, false, false, true, true, true, true, false, true, false, false, false, true, false, false, false] (fun ⟨A19, b5⟩ => [(14, true, .v (.pointer (some ⟨bw, 0 + 0 + 4, none⟩))), (16, true, zn k), (19, true, .v (.slice A19 0 0)), (22, true, .v (.pointer (some ⟨bw, 0 + 6, none⟩))), (24, true, zn k), (5, true, .v (.pointer (some ⟨b5, 0, none⟩))), (0, true, .v (.pointer (some ⟨bw, 0, none⟩))), (1, true, zn k)]) (fun ⟨A19, b5⟩ => (.row A19 0 0 39 1 [] :: .box b5 58 (([.int .i64 0, .int .i64 0, .int .i64 0, .int .i64 0, .int .i64 0, .int .i64 0, .int .i64 0, .int .i64 0, .int .i64 0, .int .i64 0, .slice none 0 0]).map T.v) :: .map m (lmT (whL f.code)) :: .box bw 100 (flCells f m aA n fs) :: .row aA n n 101 1 (fs.sls.map swCell) :: .row fs.tA fs.todo.length fs.tc 3 1 (fs.todo.map zn) :: fs.sls.map swRow)) (fun ⟨A19, b5⟩ => A19.isSome = true) ?_ ?_
  ·
    rintro ⟨A19, b5⟩ hA19
    refine AWP.three (i := 4) (j := 12) (k := 18) (by kernel_rfl) rfl rfl rfl ?_ ?_ ?_ 
    ·
      refine Y1 (Yv.loadBox rfl ag_49 (i := 3) rfl (E rfl rfl) rfl) ?_
      refine nl ?_
      refine AWP.take (i := 6) rfl (by kernel_rfl) (by kernel_rfl) (by kernel_rfl) rfl rfl (B rfl) (freeIdxSl (j := k) rfl ss_49 (by decide) (E rfl rfl) (E rfl rfl) ⟨rfl, by rw [len_code]; omega⟩) ?_
      exact AWP.to (nd111111101111010001000 (A19, b5) hA19) (by kernel_rfl) rfl (Sub.cons rfl rfl (Sub.cons rfl rfl (Sub.cons rfl rfl (Sub.cons rfl rfl (Sub.cons rfl rfl (Sub.cons rfl rfl (Sub.cons rfl rfl Sub.nil)))))))
    ·
      refine Y1 (Yv.loadBox rfl ag_98 (i := 3) rfl (E rfl rfl) rfl) ?_
      refine nl ?_
      refine AWP.take (i := 14) rfl (by kernel_rfl) (by kernel_rfl) (by kernel_rfl) rfl rfl (B rfl) (freeIdxRow (i := 4) rfl ss_98 rfl (E rfl rfl) (E rfl rfl) ⟨rfl, by omega⟩) ?_
      exact AWP.to (nd111101001111111001000 (A19, b5) hA19) (by kernel_rfl) rfl (Sub.cons rfl rfl (Sub.cons rfl rfl (Sub.cons rfl rfl (Sub.cons rfl rfl (Sub.cons rfl rfl (Sub.cons rfl rfl (Sub.cons rfl rfl Sub.nil)))))))
    ·
      refine AWL.allocOp rfl rfl (B rfl) rfl zc_101 (fun b6 => ?_)
      refine AWL.perm (perm_ins (α := Ent) (F := [.row A19 0 0 39 1 [], .box b5 58 (([.int .i64 0, .int .i64 0, .int .i64 0, .int .i64 0, .int .i64 0, .int .i64 0, .int .i64 0, .int .i64 0, .int .i64 0, .int .i64 0, .slice none 0 0]).map T.v)]) (G := (.map m (lmT (whL f.code)) :: .box bw 100 (flCells f m aA n fs) :: .row aA n n 101 1 (fs.sls.map swCell) :: .row fs.tA fs.todo.length fs.tc 3 1 (fs.todo.map zn) :: fs.sls.map swRow)) (x := .box b6 101 (([.slice none 0 0]).map T.v))) ?_
      refine nl ?_
      exact AWP.to (nd111101001111010001100 (A19, b5, b6) hA19) (by kernel_rfl) rfl (Sub.cons rfl rfl (Sub.cons rfl rfl (Sub.cons rfl rfl (Sub.cons rfl rfl (Sub.cons rfl rfl (Sub.cons rfl rfl (Sub.cons rfl rfl (Sub.cons rfl rfl (Sub.cons rfl rfl Sub.nil)))))))))
  intro nd111101001111010001000
  refine AWP.node (ι := Option Addr × Nat) 10 #[true, true, true, true, false, true, false, false, true, true, true, true, false, true, false, false, false, false, true, false, false] (fun ⟨A19, b6⟩ => [(14, true, .v (.pointer (some ⟨bw, 0 + 0 + 4, none⟩))), (16, true, zn k), (19, true, .v (.slice A19 0 0)), (22, true, .v (.pointer (some ⟨bw, 0 + 6, none⟩))), (24, true, zn k), (6, true, .v (.pointer (some ⟨b6, 0, none⟩))), (0, true, .v (.pointer (some ⟨bw, 0, none⟩))), (1, true, zn k)]) (fun ⟨A19, b6⟩ => (.row A19 0 0 39 1 [] :: .box b6 101 (([.slice none 0 0]).map T.v) :: .map m (lmT (whL f.code)) :: .box bw 100 (flCells f m aA n fs) :: .row aA n n 101 1 (fs.sls.map swCell) :: .row fs.tA fs.todo.length fs.tc 3 1 (fs.todo.map zn) :: fs.sls.map swRow)) (fun ⟨A19, b6⟩ => A19.isSome = true) ?_ ?_
  ·
    rintro ⟨A19, b6⟩ hA19
    refine AWP.three (i := 4) (j := 12) (k := 17) (by kernel_rfl) rfl rfl rfl ?_ ?_ ?_ 
    ·
      refine Y1 (Yv.loadBox rfl ag_49 (i := 3) rfl (E rfl rfl) rfl) ?_
      refine nl ?_
      refine AWP.take (i := 6) rfl (by kernel_rfl) (by kernel_rfl) (by kernel_rfl) rfl rfl (B rfl) (freeIdxSl (j := k) rfl ss_49 (by decide) (E rfl rfl) (E rfl rfl) ⟨rfl, by rw [len_code]; omega⟩) ?_
      exact AWP.to (nd111111101111010000100 (A19, b6) hA19) (by kernel_rfl) rfl (Sub.cons rfl rfl (Sub.cons rfl rfl (Sub.cons rfl rfl (Sub.cons rfl rfl (Sub.cons rfl rfl (Sub.cons rfl rfl (Sub.cons rfl rfl Sub.nil)))))))
    ·
      refine Y1 (Yv.loadBox rfl ag_98 (i := 3) rfl (E rfl rfl) rfl) ?_
      refine nl ?_
      refine AWP.take (i := 14) rfl (by kernel_rfl) (by kernel_rfl) (by kernel_rfl) rfl rfl (B rfl) (freeIdxRow (i := 4) rfl ss_98 rfl (E rfl rfl) (E rfl rfl) ⟨rfl, by omega⟩) ?_
      exact AWP.to (nd111101001111111000100 (A19, b6) hA19) (by kernel_rfl) rfl (Sub.cons rfl rfl (Sub.cons rfl rfl (Sub.cons rfl rfl (Sub.cons rfl rfl (Sub.cons rfl rfl (Sub.cons rfl rfl (Sub.cons rfl rfl Sub.nil)))))))
    ·
      refine AWL.allocOp rfl rfl (B rfl) rfl zc_58 (fun b5 => ?_)
      refine AWL.perm (perm_ins (α := Ent) (F := [.row A19 0 0 39 1 []]) (G := (.box b6 101 (([.slice none 0 0]).map T.v) :: .map m (lmT (whL f.code)) :: .box bw 100 (flCells f m aA n fs) :: .row aA n n 101 1 (fs.sls.map swCell) :: .row fs.tA fs.todo.length fs.tc 3 1 (fs.todo.map zn) :: fs.sls.map swRow)) (x := .box b5 58 (([.int .i64 0, .int .i64 0, .int .i64 0, .int .i64 0, .int .i64 0, .int .i64 0, .int .i64 0, .int .i64 0, .int .i64 0, .int .i64 0, .slice none 0 0]).map T.v))) ?_
      refine nl ?_
      exact AWP.to (nd111101001111010001100 (A19, b5, b6) hA19) (by kernel_rfl) rfl (Sub.cons rfl rfl (Sub.cons rfl rfl (Sub.cons rfl rfl (Sub.cons rfl rfl (Sub.cons rfl rfl (Sub.cons rfl rfl (Sub.cons rfl rfl (Sub.cons rfl rfl (Sub.cons rfl rfl Sub.nil)))))))))
  intro nd111101001111010000100
  refine AWP.node (ι := Unit) 10 #[true, true, true, true, false, true, false, false, false, true, true, true, true, true, true, false, false, false, false, false, false] (fun _ => [(14, true, .v (.pointer (some ⟨bw, 0 + 0 + 4, none⟩))), (16, true, zn k), (25, true, .ep (.slice aA n n) (k * 1)), (0, true, .v (.pointer (some ⟨bw, 0, none⟩))), (1, true, zn k)]) (fun _ => (.map m (lmT (whL f.code)) :: .box bw 100 (flCells f m aA n fs) :: .row aA n n 101 1 (fs.sls.map swCell) :: .row fs.tA fs.todo.length fs.tc 3 1 (fs.todo.map zn) :: fs.sls.map swRow)) (fun _ => True) ?_ ?_
  ·
    rintro _ _
    refine AWP.five (i0 := 4) (i1 := 8) (i2 := 15) (i3 := 17) (i4 := 18) (by kernel_rfl) rfl rfl rfl rfl rfl ?_ ?_ ?_ ?_ ?_ 
    ·
      refine Y1 (Yv.loadBox rfl ag_49 (i := 1) rfl (E rfl rfl) rfl) ?_
      refine nl ?_
      refine AWP.take (i := 6) rfl (by kernel_rfl) (by kernel_rfl) (by kernel_rfl) rfl rfl (B rfl) (freeIdxSl (j := k) rfl ss_49 (by decide) (E rfl rfl) (E rfl rfl) ⟨rfl, by rw [len_code]; omega⟩) ?_
      exact AWP.to (nd111111100111111000000 () trivial) (by kernel_rfl) rfl (Sub.cons rfl rfl (Sub.cons rfl rfl (Sub.cons rfl rfl (Sub.cons rfl rfl Sub.nil))))
    ·
      refine AWL.buildSliceRowS rfl rfl (B rfl) rfl el_101 (B rfl) rfl evs0 (Nat.le_of_ble_eq_true rfl) rfl rfl (fun A19 hA19 => ?_)
      refine AWL.perm (perm_ins (α := Ent) (F := []) (G := (.map m (lmT (whL f.code)) :: .box bw 100 (flCells f m aA n fs) :: .row aA n n 101 1 (fs.sls.map swCell) :: .row fs.tA fs.todo.length fs.tc 3 1 (fs.todo.map zn) :: fs.sls.map swRow)) (x := .row A19 0 0 39 1 [])) ?_
      refine nl ?_
      exact AWP.to (nd111101001111111000000 A19 hA19) (by kernel_rfl) rfl (Sub.cons rfl rfl (Sub.cons rfl rfl (Sub.cons rfl rfl (Sub.cons rfl rfl (Sub.cons rfl rfl (Sub.cons rfl rfl Sub.nil))))))
    ·
      refine Y1 (Yv.loadEp rfl ag_101 (i := 2) rfl (E rfl rfl) (fun hg => sw_cell hkl)) ?_
      refine nl ?_
      exact AWP.to (nd111101000111111100000 () trivial) (by kernel_rfl) rfl (Sub.cons rfl rfl (Sub.cons rfl rfl (Sub.cons rfl rfl (Sub.cons rfl rfl (Sub.cons rfl rfl Sub.nil)))))
    ·
      refine AWL.allocOp rfl rfl (B rfl) rfl zc_58 (fun b5 => ?_)
      refine AWL.perm (perm_ins (α := Ent) (F := []) (G := (.map m (lmT (whL f.code)) :: .box bw 100 (flCells f m aA n fs) :: .row aA n n 101 1 (fs.sls.map swCell) :: .row fs.tA fs.todo.length fs.tc 3 1 (fs.todo.map zn) :: fs.sls.map swRow)) (x := .box b5 58 (([.int .i64 0, .int .i64 0, .int .i64 0, .int .i64 0, .int .i64 0, .int .i64 0, .int .i64 0, .int .i64 0, .int .i64 0, .int .i64 0, .slice none 0 0]).map T.v))) ?_
      refine nl ?_
      exact AWP.to (nd111101000111111001000 b5 trivial) (by kernel_rfl) rfl (Sub.cons rfl rfl (Sub.cons rfl rfl (Sub.cons rfl rfl (Sub.cons rfl rfl (Sub.cons rfl rfl (Sub.cons rfl rfl Sub.nil))))))
    ·
      refine AWL.allocOp rfl rfl (B rfl) rfl zc_101 (fun b6 => ?_)
      refine AWL.perm (perm_ins (α := Ent) (F := []) (G := (.map m (lmT (whL f.code)) :: .box bw 100 (flCells f m aA n fs) :: .row aA n n 101 1 (fs.sls.map swCell) :: .row fs.tA fs.todo.length fs.tc 3 1 (fs.todo.map zn) :: fs.sls.map swRow)) (x := .box b6 101 (([.slice none 0 0]).map T.v))) ?_
      refine nl ?_
      exact AWP.to (nd111101000111111000100 b6 trivial) (by kernel_rfl) rfl (Sub.cons rfl rfl (Sub.cons rfl rfl (Sub.cons rfl rfl (Sub.cons rfl rfl (Sub.cons rfl rfl (Sub.cons rfl rfl Sub.nil))))))
  intro nd111101000111111000000
  refine AWP.node (ι := Nat × Nat) 10 #[true, true, true, true, false, true, false, false, false, true, true, true, false, true, false, false, false, true, true, false, false] (fun ⟨b5, b6⟩ => [(14, true, .v (.pointer (some ⟨bw, 0 + 0 + 4, none⟩))), (16, true, zn k), (22, true, .v (.pointer (some ⟨bw, 0 + 6, none⟩))), (24, true, zn k), (5, true, .v (.pointer (some ⟨b5, 0, none⟩))), (6, true, .v (.pointer (some ⟨b6, 0, none⟩))), (0, true, .v (.pointer (some ⟨bw, 0, none⟩))), (1, true, zn k)]) (fun ⟨b5, b6⟩ => (.box b5 58 (([.int .i64 0, .int .i64 0, .int .i64 0, .int .i64 0, .int .i64 0, .int .i64 0, .int .i64 0, .int .i64 0, .int .i64 0, .int .i64 0, .slice none 0 0]).map T.v) :: .box b6 101 (([.slice none 0 0]).map T.v) :: .map m (lmT (whL f.code)) :: .box bw 100 (flCells f m aA n fs) :: .row aA n n 101 1 (fs.sls.map swCell) :: .row fs.tA fs.todo.length fs.tc 3 1 (fs.todo.map zn) :: fs.sls.map swRow)) (fun ⟨b5, b6⟩ => True) ?_ ?_
  ·
    rintro ⟨b5, b6⟩ _
    refine AWP.three (i := 4) (j := 8) (k := 12) (by kernel_rfl) rfl rfl rfl ?_ ?_ ?_ 
    ·
      refine Y1 (Yv.loadBox rfl ag_49 (i := 3) rfl (E rfl rfl) rfl) ?_
      refine nl ?_
      refine AWP.take (i := 6) rfl (by kernel_rfl) (by kernel_rfl) (by kernel_rfl) rfl rfl (B rfl) (freeIdxSl (j := k) rfl ss_49 (by decide) (E rfl rfl) (E rfl rfl) ⟨rfl, by rw [len_code]; omega⟩) ?_
      exact AWP.to (nd111111100111010001100 (b5, b6) trivial) (by kernel_rfl) rfl (Sub.cons rfl rfl (Sub.cons rfl rfl (Sub.cons rfl rfl (Sub.cons rfl rfl (Sub.cons rfl rfl (Sub.cons rfl rfl (Sub.cons rfl rfl Sub.nil)))))))
    ·
      refine AWL.buildSliceRowS rfl rfl (B rfl) rfl el_101 (B rfl) rfl evs0 (Nat.le_of_ble_eq_true rfl) rfl rfl (fun A19 hA19 => ?_)
      refine AWL.perm (perm_ins (α := Ent) (F := []) (G := (.box b5 58 (([.int .i64 0, .int .i64 0, .int .i64 0, .int .i64 0, .int .i64 0, .int .i64 0, .int .i64 0, .int .i64 0, .int .i64 0, .int .i64 0, .slice none 0 0]).map T.v) :: .box b6 101 (([.slice none 0 0]).map T.v) :: .map m (lmT (whL f.code)) :: .box bw 100 (flCells f m aA n fs) :: .row aA n n 101 1 (fs.sls.map swCell) :: .row fs.tA fs.todo.length fs.tc 3 1 (fs.todo.map zn) :: fs.sls.map swRow)) (x := .row A19 0 0 39 1 [])) ?_
      refine nl ?_
      exact AWP.to (nd111101001111010001100 (A19, b5, b6) hA19) (by kernel_rfl) rfl (Sub.cons rfl rfl (Sub.cons rfl rfl (Sub.cons rfl rfl (Sub.cons rfl rfl (Sub.cons rfl rfl (Sub.cons rfl rfl (Sub.cons rfl rfl (Sub.cons rfl rfl (Sub.cons rfl rfl Sub.nil)))))))))
    ·
      refine Y1 (Yv.loadBox rfl ag_98 (i := 3) rfl (E rfl rfl) rfl) ?_
      refine nl ?_
      refine AWP.take (i := 14) rfl (by kernel_rfl) (by kernel_rfl) (by kernel_rfl) rfl rfl (B rfl) (freeIdxRow (i := 4) rfl ss_98 rfl (E rfl rfl) (E rfl rfl) ⟨rfl, by omega⟩) ?_
      exact AWP.to (nd111101000111111001100 (b5, b6) trivial) (by kernel_rfl) rfl (Sub.cons rfl rfl (Sub.cons rfl rfl (Sub.cons rfl rfl (Sub.cons rfl rfl (Sub.cons rfl rfl (Sub.cons rfl rfl (Sub.cons rfl rfl Sub.nil)))))))
  intro nd111101000111010001100
  refine AWP.node (ι := Option Addr) 11 #[true, true, true, true, false, true, false, false, true, true, true, true, false, true, false, false, false, false, false, false, false] (fun A19 => [(14, true, .v (.pointer (some ⟨bw, 0 + 0 + 4, none⟩))), (16, true, zn k), (19, true, .v (.slice A19 0 0)), (22, true, .v (.pointer (some ⟨bw, 0 + 6, none⟩))), (24, true, zn k), (0, true, .v (.pointer (some ⟨bw, 0, none⟩))), (1, true, zn k)]) (fun A19 => (.row A19 0 0 39 1 [] :: .map m (lmT (whL f.code)) :: .box bw 100 (flCells f m aA n fs) :: .row aA n n 101 1 (fs.sls.map swCell) :: .row fs.tA fs.todo.length fs.tc 3 1 (fs.todo.map zn) :: fs.sls.map swRow)) (fun A19 => A19.isSome = true) ?_ ?_
  ·
    rintro A19 hA19
    refine AWP.four (i0 := 4) (i1 := 12) (i2 := 17) (i3 := 18) (by kernel_rfl) rfl rfl rfl rfl ?_ ?_ ?_ ?_ 
    ·
      refine Y1 (Yv.loadBox rfl ag_49 (i := 2) rfl (E rfl rfl) rfl) ?_
      refine nl ?_
      refine AWP.take (i := 6) rfl (by kernel_rfl) (by kernel_rfl) (by kernel_rfl) rfl rfl (B rfl) (freeIdxSl (j := k) rfl ss_49 (by decide) (E rfl rfl) (E rfl rfl) ⟨rfl, by rw [len_code]; omega⟩) ?_
      exact AWP.to (nd111111101111010000000 A19 hA19) (by kernel_rfl) rfl (Sub.cons rfl rfl (Sub.cons rfl rfl (Sub.cons rfl rfl (Sub.cons rfl rfl (Sub.cons rfl rfl (Sub.cons rfl rfl Sub.nil))))))
    ·
      refine Y1 (Yv.loadBox rfl ag_98 (i := 2) rfl (E rfl rfl) rfl) ?_
      refine nl ?_
      refine AWP.take (i := 14) rfl (by kernel_rfl) (by kernel_rfl) (by kernel_rfl) rfl rfl (B rfl) (freeIdxRow (i := 3) rfl ss_98 rfl (E rfl rfl) (E rfl rfl) ⟨rfl, by omega⟩) ?_
      exact AWP.to (nd111101001111111000000 A19 hA19) (by kernel_rfl) rfl (Sub.cons rfl rfl (Sub.cons rfl rfl (Sub.cons rfl rfl (Sub.cons rfl rfl (Sub.cons rfl rfl (Sub.cons rfl rfl Sub.nil))))))
    ·
      refine AWL.allocOp rfl rfl (B rfl) rfl zc_58 (fun b5 => ?_)
      refine AWL.perm (perm_ins (α := Ent) (F := [.row A19 0 0 39 1 []]) (G := (.map m (lmT (whL f.code)) :: .box bw 100 (flCells f m aA n fs) :: .row aA n n 101 1 (fs.sls.map swCell) :: .row fs.tA fs.todo.length fs.tc 3 1 (fs.todo.map zn) :: fs.sls.map swRow)) (x := .box b5 58 (([.int .i64 0, .int .i64 0, .int .i64 0, .int .i64 0, .int .i64 0, .int .i64 0, .int .i64 0, .int .i64 0, .int .i64 0, .int .i64 0, .slice none 0 0]).map T.v))) ?_
      refine nl ?_
      exact AWP.to (nd111101001111010001000 (A19, b5) hA19) (by kernel_rfl) rfl (Sub.cons rfl rfl (Sub.cons rfl rfl (Sub.cons rfl rfl (Sub.cons rfl rfl (Sub.cons rfl rfl (Sub.cons rfl rfl (Sub.cons rfl rfl (Sub.cons rfl rfl Sub.nil))))))))
    ·
      refine AWL.allocOp rfl rfl (B rfl) rfl zc_101 (fun b6 => ?_)
      refine AWL.perm (perm_ins (α := Ent) (F := [.row A19 0 0 39 1 []]) (G := (.map m (lmT (whL f.code)) :: .box bw 100 (flCells f m aA n fs) :: .row aA n n 101 1 (fs.sls.map swCell) :: .row fs.tA fs.todo.length fs.tc 3 1 (fs.todo.map zn) :: fs.sls.map swRow)) (x := .box b6 101 (([.slice none 0 0]).map T.v))) ?_
      refine nl ?_
      exact AWP.to (nd111101001111010000100 (A19, b6) hA19) (by kernel_rfl) rfl (Sub.cons rfl rfl (Sub.cons rfl rfl (Sub.cons rfl rfl (Sub.cons rfl rfl (Sub.cons rfl rfl (Sub.cons rfl rfl (Sub.cons rfl rfl (Sub.cons rfl rfl Sub.nil))))))))
  intro nd111101001111010000000
  refine AWP.node (ι := Nat) 11 #[true, true, true, true, false, true, false, false, false, true, true, true, false, true, false, false, false, true, false, false, false] (fun b5 => [(14, true, .v (.pointer (some ⟨bw, 0 + 0 + 4, none⟩))), (16, true, zn k), (22, true, .v (.pointer (some ⟨bw, 0 + 6, none⟩))), (24, true, zn k), (5, true, .v (.pointer (some ⟨b5, 0, none⟩))), (0, true, .v (.pointer (some ⟨bw, 0, none⟩))), (1, true, zn k)]) (fun b5 => (.box b5 58 (([.int .i64 0, .int .i64 0, .int .i64 0, .int .i64 0, .int .i64 0, .int .i64 0, .int .i64 0, .int .i64 0, .int .i64 0, .int .i64 0, .slice none 0 0]).map T.v) :: .map m (lmT (whL f.code)) :: .box bw 100 (flCells f m aA n fs) :: .row aA n n 101 1 (fs.sls.map swCell) :: .row fs.tA fs.todo.length fs.tc 3 1 (fs.todo.map zn) :: fs.sls.map swRow)) (fun b5 => True) ?_ ?_
  ·
    rintro b5 _
    refine AWP.four (i0 := 4) (i1 := 8) (i2 := 12) (i3 := 18) (by kernel_rfl) rfl rfl rfl rfl ?_ ?_ ?_ ?_ 
    ·
      refine Y1 (Yv.loadBox rfl ag_49 (i := 2) rfl (E rfl rfl) rfl) ?_
      refine nl ?_
      refine AWP.take (i := 6) rfl (by kernel_rfl) (by kernel_rfl) (by kernel_rfl) rfl rfl (B rfl) (freeIdxSl (j := k) rfl ss_49 (by decide) (E rfl rfl) (E rfl rfl) ⟨rfl, by rw [len_code]; omega⟩) ?_
      exact AWP.to (nd111111100111010001000 b5 trivial) (by kernel_rfl) rfl (Sub.cons rfl rfl (Sub.cons rfl rfl (Sub.cons rfl rfl (Sub.cons rfl rfl (Sub.cons rfl rfl (Sub.cons rfl rfl Sub.nil))))))
    ·
      refine AWL.buildSliceRowS rfl rfl (B rfl) rfl el_101 (B rfl) rfl evs0 (Nat.le_of_ble_eq_true rfl) rfl rfl (fun A19 hA19 => ?_)
      refine AWL.perm (perm_ins (α := Ent) (F := []) (G := (.box b5 58 (([.int .i64 0, .int .i64 0, .int .i64 0, .int .i64 0, .int .i64 0, .int .i64 0, .int .i64 0, .int .i64 0, .int .i64 0, .int .i64 0, .slice none 0 0]).map T.v) :: .map m (lmT (whL f.code)) :: .box bw 100 (flCells f m aA n fs) :: .row aA n n 101 1 (fs.sls.map swCell) :: .row fs.tA fs.todo.length fs.tc 3 1 (fs.todo.map zn) :: fs.sls.map swRow)) (x := .row A19 0 0 39 1 [])) ?_
      refine nl ?_
      exact AWP.to (nd111101001111010001000 (A19, b5) hA19) (by kernel_rfl) rfl (Sub.cons rfl rfl (Sub.cons rfl rfl (Sub.cons rfl rfl (Sub.cons rfl rfl (Sub.cons rfl rfl (Sub.cons rfl rfl (Sub.cons rfl rfl (Sub.cons rfl rfl Sub.nil))))))))
    ·
      refine Y1 (Yv.loadBox rfl ag_98 (i := 2) rfl (E rfl rfl) rfl) ?_
      refine nl ?_
      refine AWP.take (i := 14) rfl (by kernel_rfl) (by kernel_rfl) (by kernel_rfl) rfl rfl (B rfl) (freeIdxRow (i := 3) rfl ss_98 rfl (E rfl rfl) (E rfl rfl) ⟨rfl, by omega⟩) ?_
      exact AWP.to (nd111101000111111001000 b5 trivial) (by kernel_rfl) rfl (Sub.cons rfl rfl (Sub.cons rfl rfl (Sub.cons rfl rfl (Sub.cons rfl rfl (Sub.cons rfl rfl (Sub.cons rfl rfl Sub.nil))))))
    ·
      refine AWL.allocOp rfl rfl (B rfl) rfl zc_101 (fun b6 => ?_)
      refine AWL.perm (perm_ins (α := Ent) (F := [.box b5 58 (([.int .i64 0, .int .i64 0, .int .i64 0, .int .i64 0, .int .i64 0, .int .i64 0, .int .i64 0, .int .i64 0, .int .i64 0, .int .i64 0, .slice none 0 0]).map T.v)]) (G := (.map m (lmT (whL f.code)) :: .box bw 100 (flCells f m aA n fs) :: .row aA n n 101 1 (fs.sls.map swCell) :: .row fs.tA fs.todo.length fs.tc 3 1 (fs.todo.map zn) :: fs.sls.map swRow)) (x := .box b6 101 (([.slice none 0 0]).map T.v))) ?_
      refine nl ?_
      exact AWP.to (nd111101000111010001100 (b5, b6) trivial) (by kernel_rfl) rfl (Sub.cons rfl rfl (Sub.cons rfl rfl (Sub.cons rfl rfl (Sub.cons rfl rfl (Sub.cons rfl rfl (Sub.cons rfl rfl (Sub.cons rfl rfl (Sub.cons rfl rfl Sub.nil))))))))
  intro nd111101000111010001000
  refine AWP.node (ι := Nat) 11 #[true, true, true, true, false, true, false, false, false, true, true, true, false, true, false, false, false, false, true, false, false] (fun b6 => [(14, true, .v (.pointer (some ⟨bw, 0 + 0 + 4, none⟩))), (16, true, zn k), (22, true, .v (.pointer (some ⟨bw, 0 + 6, none⟩))), (24, true, zn k), (6, true, .v (.pointer (some ⟨b6, 0, none⟩))), (0, true, .v (.pointer (some ⟨bw, 0, none⟩))), (1, true, zn k)]) (fun b6 => (.box b6 101 (([.slice none 0 0]).map T.v) :: .map m (lmT (whL f.code)) :: .box bw 100 (flCells f m aA n fs) :: .row aA n n 101 1 (fs.sls.map swCell) :: .row fs.tA fs.todo.length fs.tc 3 1 (fs.todo.map zn) :: fs.sls.map swRow)) (fun b6 => True) ?_ ?_
  ·
    rintro b6 _
    refine AWP.four (i0 := 4) (i1 := 8) (i2 := 12) (i3 := 17) (by kernel_rfl) rfl rfl rfl rfl ?_ ?_ ?_ ?_ 
    ·
      refine Y1 (Yv.loadBox rfl ag_49 (i := 2) rfl (E rfl rfl) rfl) ?_
      refine nl ?_
      refine AWP.take (i := 6) rfl (by kernel_rfl) (by kernel_rfl) (by kernel_rfl) rfl rfl (B rfl) (freeIdxSl (j := k) rfl ss_49 (by decide) (E rfl rfl) (E rfl rfl) ⟨rfl, by rw [len_code]; omega⟩) ?_
      exact AWP.to (nd111111100111010000100 b6 trivial) (by kernel_rfl) rfl (Sub.cons rfl rfl (Sub.cons rfl rfl (Sub.cons rfl rfl (Sub.cons rfl rfl (Sub.cons rfl rfl (Sub.cons rfl rfl Sub.nil))))))
    ·
      refine AWL.buildSliceRowS rfl rfl (B rfl) rfl el_101 (B rfl) rfl evs0 (Nat.le_of_ble_eq_true rfl) rfl rfl (fun A19 hA19 => ?_)
      refine AWL.perm (perm_ins (α := Ent) (F := []) (G := (.box b6 101 (([.slice none 0 0]).map T.v) :: .map m (lmT (whL f.code)) :: .box bw 100 (flCells f m aA n fs) :: .row aA n n 101 1 (fs.sls.map swCell) :: .row fs.tA fs.todo.length fs.tc 3 1 (fs.todo.map zn) :: fs.sls.map swRow)) (x := .row A19 0 0 39 1 [])) ?_
      refine nl ?_
      exact AWP.to (nd111101001111010000100 (A19, b6) hA19) (by kernel_rfl) rfl (Sub.cons rfl rfl (Sub.cons rfl rfl (Sub.cons rfl rfl (Sub.cons rfl rfl (Sub.cons rfl rfl (Sub.cons rfl rfl (Sub.cons rfl rfl (Sub.cons rfl rfl Sub.nil))))))))
    ·
      refine Y1 (Yv.loadBox rfl ag_98 (i := 2) rfl (E rfl rfl) rfl) ?_
      refine nl ?_
      refine AWP.take (i := 14) rfl (by kernel_rfl) (by kernel_rfl) (by kernel_rfl) rfl rfl (B rfl) (freeIdxRow (i := 3) rfl ss_98 rfl (E rfl rfl) (E rfl rfl) ⟨rfl, by omega⟩) ?_
      exact AWP.to (nd111101000111111000100 b6 trivial) (by kernel_rfl) rfl (Sub.cons rfl rfl (Sub.cons rfl rfl (Sub.cons rfl rfl (Sub.cons rfl rfl (Sub.cons rfl rfl (Sub.cons rfl rfl Sub.nil))))))
    ·
      refine AWL.allocOp rfl rfl (B rfl) rfl zc_58 (fun b5 => ?_)
      refine AWL.perm (perm_ins (α := Ent) (F := []) (G := (.box b6 101 (([.slice none 0 0]).map T.v) :: .map m (lmT (whL f.code)) :: .box bw 100 (flCells f m aA n fs) :: .row aA n n 101 1 (fs.sls.map swCell) :: .row fs.tA fs.todo.length fs.tc 3 1 (fs.todo.map zn) :: fs.sls.map swRow)) (x := .box b5 58 (([.int .i64 0, .int .i64 0, .int .i64 0, .int .i64 0, .int .i64 0, .int .i64 0, .int .i64 0, .int .i64 0, .int .i64 0, .int .i64 0, .slice none 0 0]).map T.v))) ?_
      refine nl ?_
      exact AWP.to (nd111101000111010001100 (b5, b6) trivial) (by kernel_rfl) rfl (Sub.cons rfl rfl (Sub.cons rfl rfl (Sub.cons rfl rfl (Sub.cons rfl rfl (Sub.cons rfl rfl (Sub.cons rfl rfl (Sub.cons rfl rfl (Sub.cons rfl rfl Sub.nil))))))))
  intro nd111101000111010000100
  refine AWP.five (i0 := 4) (i1 := 8) (i2 := 12) (i3 := 17) (i4 := 18) (by kernel_rfl) rfl rfl rfl rfl rfl ?_ ?_ ?_ ?_ ?_ 
  ·
    refine Y1 (Yv.loadBox rfl ag_49 (i := 1) rfl (E rfl rfl) rfl) ?_
    refine nl ?_
    refine AWP.take (i := 6) rfl (by kernel_rfl) (by kernel_rfl) (by kernel_rfl) rfl rfl (B rfl) (freeIdxSl (j := k) rfl ss_49 (by decide) (E rfl rfl) (E rfl rfl) ⟨rfl, by rw [len_code]; omega⟩) ?_
    exact AWP.to (nd111111100111010000000 () trivial) (by kernel_rfl) rfl (Sub.cons rfl rfl (Sub.cons rfl rfl (Sub.cons rfl rfl (Sub.cons rfl rfl (Sub.cons rfl rfl Sub.nil)))))
  ·
    refine AWL.buildSliceRowS rfl rfl (B rfl) rfl el_101 (B rfl) rfl evs0 (Nat.le_of_ble_eq_true rfl) rfl rfl (fun A19 hA19 => ?_)
    refine AWL.perm (perm_ins (α := Ent) (F := []) (G := (.map m (lmT (whL f.code)) :: .box bw 100 (flCells f m aA n fs) :: .row aA n n 101 1 (fs.sls.map swCell) :: .row fs.tA fs.todo.length fs.tc 3 1 (fs.todo.map zn) :: fs.sls.map swRow)) (x := .row A19 0 0 39 1 [])) ?_
    refine nl ?_
    exact AWP.to (nd111101001111010000000 A19 hA19) (by kernel_rfl) rfl (Sub.cons rfl rfl (Sub.cons rfl rfl (Sub.cons rfl rfl (Sub.cons rfl rfl (Sub.cons rfl rfl (Sub.cons rfl rfl (Sub.cons rfl rfl Sub.nil)))))))
  ·
    refine Y1 (Yv.loadBox rfl ag_98 (i := 1) rfl (E rfl rfl) rfl) ?_
    refine nl ?_
    refine AWP.take (i := 14) rfl (by kernel_rfl) (by kernel_rfl) (by kernel_rfl) rfl rfl (B rfl) (freeIdxRow (i := 2) rfl ss_98 rfl (E rfl rfl) (E rfl rfl) ⟨rfl, by omega⟩) ?_
    exact AWP.to (nd111101000111111000000 () trivial) (by kernel_rfl) rfl (Sub.cons rfl rfl (Sub.cons rfl rfl (Sub.cons rfl rfl (Sub.cons rfl rfl (Sub.cons rfl rfl Sub.nil)))))
  ·
    refine AWL.allocOp rfl rfl (B rfl) rfl zc_58 (fun b5 => ?_)
    refine AWL.perm (perm_ins (α := Ent) (F := []) (G := (.map m (lmT (whL f.code)) :: .box bw 100 (flCells f m aA n fs) :: .row aA n n 101 1 (fs.sls.map swCell) :: .row fs.tA fs.todo.length fs.tc 3 1 (fs.todo.map zn) :: fs.sls.map swRow)) (x := .box b5 58 (([.int .i64 0, .int .i64 0, .int .i64 0, .int .i64 0, .int .i64 0, .int .i64 0, .int .i64 0, .int .i64 0, .int .i64 0, .int .i64 0, .slice none 0 0]).map T.v))) ?_
    refine nl ?_
    exact AWP.to (nd111101000111010001000 b5 trivial) (by kernel_rfl) rfl (Sub.cons rfl rfl (Sub.cons rfl rfl (Sub.cons rfl rfl (Sub.cons rfl rfl (Sub.cons rfl rfl (Sub.cons rfl rfl (Sub.cons rfl rfl Sub.nil)))))))
  ·
    refine AWL.allocOp rfl rfl (B rfl) rfl zc_101 (fun b6 => ?_)
    refine AWL.perm (perm_ins (α := Ent) (F := []) (G := (.map m (lmT (whL f.code)) :: .box bw 100 (flCells f m aA n fs) :: .row aA n n 101 1 (fs.sls.map swCell) :: .row fs.tA fs.todo.length fs.tc 3 1 (fs.todo.map zn) :: fs.sls.map swRow)) (x := .box b6 101 (([.slice none 0 0]).map T.v))) ?_
    refine nl ?_
    exact AWP.to (nd111101000111010000100 b6 trivial) (by kernel_rfl) rfl (Sub.cons rfl rfl (Sub.cons rfl rfl (Sub.cons rfl rfl (Sub.cons rfl rfl (Sub.cons rfl rfl (Sub.cons rfl rfl (Sub.cons rfl rfl Sub.nil)))))))

theorem step39 (p : Prog) (bw : Nat) (f : Fn) (m : Nat) (aA : Option Addr) (n K R : Nat) (fs : FS) (k : Nat) (hp : FnIn f) (hf : FnOk p f) (hR : f.regs = (R : Int)) (h : FOk n K fs) (hnf : n = f.code.length) (hk : k < n) (hK : f.regs + f.slots ≤ 64 * K) (hK2 : K ≤ 17409) (hv : (fs.sls.getD k default).v = some (fs.sls.getD k default).ws) (ht : fs.todo.length ≤ 4398046511000) :
    ACalls Try.prog 39 [.v (.pointer (some ⟨bw, 0, none⟩)), zn k] (.map m (lmT (whL f.code)) :: FSt bw f m aA n fs) (fun t S => ∃ fs', t = bv (readOkB R (f.code.getD k default) (absB (fs.sls.getD k default).ws)) ∧ ((readOkB R (f.code.getD k default) (absB (fs.sls.getD k default).ws)) = true → Tos n K (behindF R (f.code.getD k default) (absB (fs.sls.getD k default).ws)) ((nextF (whL f.code) (f.code.getD k default) k).map Int.toNat) fs fs') ∧ S = .map m (lmT (whL f.code)) :: FSt bw f m aA n fs') :=
  (step39_ p bw f m aA n K R fs k hp hf hR h hnf hk hK hK2 hv ht).less fun t S' ⟨fs', h1, h2, h3⟩ => ⟨_, h3, fs', h1, h2, rfl⟩
end Go.Proofs.Ytlfklgganokgdaa

namespace Go.Proofs.Ytlfklgganokgdaa
open Go Go.RowKit
set_option linter.unusedSimpArgs false
set_option linter.unusedVariables false
theorem sf_not {f : Fn} {W : Nat} {X : Fam} {k : Nat} {a : List Bool} (ha : Above f f.regs.toNat W X) (hk : k < f.code.length) (hX : famAt X k = some a) (hb : readOkB f.regs.toNat (f.code.getD k default) a = false) : ¬ SF f W := by
  rintro ⟨Y, hY, hr⟩
  have h1 := ha Y hY k
  rw [hX] at h1
  cases hy : famAt Y k with
  | none => rw [hy] at h1; exact absurd h1 id
  | some b =>
    rw [hy] at h1
    have h2 := hr k b hk hy
    have : readOkB f.regs.toNat (f.code.getD k default) a = true := by
      unfold readOkB at h2 ⊢
      rw [Bool.and_eq_true, List.all_eq_true, Bool.or_eq_true] at h2 ⊢
      exact ⟨fun r hr' => h1 _ (h2.1 r hr'), h2.2.imp id (fun q => h1 _ q)⟩
    rw [hb] at this
    cases this
def closed (f : Fn) (R : Nat) (X : Fam) (k : Nat) (a : List Bool) : Prop := readOkB R (f.code.getD k default) a = true ∧ ∀ l ∈ nextF (whL f.code) (f.code.getD k default) k, leO (famAt X l.toNat) (some (behindF R (f.code.getD k default) a))
structure WJ (f : Fn) (R W n K : Nat) (fs : FS) (P : Nat → List Bool → Prop) : Prop where
  fok : FOk n K fs
  fin : FamIn f W (famW fs.sls)
  ab : Above f R W (famW fs.sls)
  fst : ∃ a, famAt (famW fs.sls) 0 = some a ∧ leB a (firstF R W f.params.toNat)
  todo : ∀ t ∈ fs.todo, t < n ∧ (famAt (famW fs.sls) t).isSome = true
  clo : ∀ k a, famAt (famW fs.sls) k = some a → k ∈ fs.todo ∨ closed f R (famW fs.sls) k a ∨ P k a
abbrev WI (f : Fn) (R W n K : Nat) (fs : FS) : Prop := WJ f R W n K fs (fun _ _ => False)
def meas (W : Nat) (fs : FS) : Nat := pot W (famW fs.sls) + fs.todo.length
theorem meetX_le {X : Fam} {l : Nat} {out : List Bool} (hl : l < X.length) (hlen : ∀ c, famAt X l = some c → c.length = out.length) {q : Nat} {b : List Bool} (h : leO (famAt X q) (some b)) : leO (famAt (meetX X l out) q) (some b) := by
  unfold meetX
  rw [famAt_set hl]
  by_cases hq : q = l
  · subst hq
    rw [if_pos rfl]
    cases hX : famAt X q with
    | none => rw [hX] at h; exact absurd h id
    | some c =>
      rw [hX] at h
      intro n hn
      rw [meet_get (hlen c hX), Bool.and_eq_true] at hn
      exact h n hn.1
  · rw [if_neg hq]; exact h
theorem meetX_out {X : Fam} {l : Nat} {out : List Bool} (hl : l < X.length) (hlen : ∀ c, famAt X l = some c → c.length = out.length) : leO (famAt (meetX X l out) l) (some out) := by
  unfold meetX
  rw [famAt_set hl, if_pos rfl]
  cases hX : famAt X l with
  | none => exact leB.refl _
  | some c =>
    intro n hn
    rw [meet_get (hlen c hX), Bool.and_eq_true] at hn
    exact hn.2
/-- One place is told what is set: all is kept, and less is left. -/
theorem WJ.to {f : Fn} {R W n K k : Nat} {fs fs' : FS} {a : List Bool} {l : Int} {ls : List Int} (hn : n = f.code.length) (hR : R ≤ W)
    (h : WJ f R W n K fs (fun k' a' => k' = k ∧ a' = a ∧ ∀ q ∈ ls, leO (famAt (famW fs.sls) q.toNat) (some (behindF R (f.code.getD k default) a)))) (hk : k < n) (hal : a.length = W) (ha : ∀ Y, Sol f R W Y → leO (famAt Y k) (some a))
    (hl : l ∈ nextF (whL f.code) (f.code.getD k default) k) (hll : l.toNat < n) (ht : ToR n K fs l.toNat (behindF R (f.code.getD k default) a) fs') :
    WJ f R W n K fs' (fun k' a' => k' = k ∧ a' = a ∧ ∀ q ∈ ls ++ [l], leO (famAt (famW fs'.sls) q.toNat) (some (behindF R (f.code.getD k default) a))) ∧ meas W fs' ≤ meas W fs ∧ (pot W (famW fs'.sls) ≤ pot W (famW fs.sls)) ∧ 2 * pot W (famW fs'.sls) + fs'.todo.length ≤ 2 * pot W (famW fs.sls) + fs.todo.length := by
  have hm := (FI.start h.fin h.ab h.fst).meet hR (by omega) hal ha hl (by omega)
  have hob : (behindF R (f.code.getD k default) a).length = W := by rw [behind_len (by omega), hal]
  have hlX : l.toNat < (famW fs.sls).length := by rw [h.fin.len]; omega
  have hlen : ∀ c, famAt (famW fs.sls) l.toNat = some c → c.length = (behindF R (f.code.getD k default) a).length := fun c hc => by rw [h.fin.bits _ c hc, hob]
  rw [Bool.false_or] at hm
  have hfm := ht.fam
  have htd := ht.todo
  rw [← hfm] at hm
  have hsub : ∀ t, t ∈ fs.todo → t ∈ fs'.todo := fun t q => by rw [htd]; split <;> simp [q]
  refine ⟨⟨ht.ok, hm.fin, hm.ab, hm.fst, fun t q => ?_, fun k' a' hk' => ?_⟩, ?_, hm.le, ?_⟩
  · have key : ∀ t, t < n → (famAt (famW fs.sls) t).isSome = true → (famAt (famW fs'.sls) t).isSome = true := fun t _ hv => by
      rw [hfm]
      unfold meetX
      rw [famAt_set hlX]
      split
      · rfl
      · exact hv
    rw [htd] at q
    split at q
    · rcases List.mem_append.1 q with q | q
      · exact ⟨(h.todo t q).1, key t (h.todo t q).1 (h.todo t q).2⟩
      · rw [List.mem_singleton.1 q]
        refine ⟨hll, ?_⟩
        rw [hfm]
        unfold meetX
        rw [famAt_set hlX, if_pos rfl]
        rfl
    · exact ⟨(h.todo t q).1, key t (h.todo t q).1 (h.todo t q).2⟩
  · have same : famAt (famW fs.sls) k' = some a' → k' ∈ fs'.todo ∨ closed f R (famW fs'.sls) k' a' ∨ (k' = k ∧ a' = a ∧ ∀ q ∈ ls ++ [l], leO (famAt (famW fs'.sls) q.toNat) (some (behindF R (f.code.getD k default) a))) := fun hv => by
      rcases h.clo k' a' hv with q | q | ⟨q1, q2, q3⟩
      · exact .inl (hsub _ q)
      · refine .inr (.inl ⟨q.1, fun l' hl' => ?_⟩)
        rw [hfm]
        exact meetX_le hlX hlen (q.2 l' hl')
      · refine .inr (.inr ⟨q1, q2, fun q hq => ?_⟩)
        rw [hfm]
        rcases List.mem_append.1 hq with hq | hq
        · exact meetX_le hlX hlen (q3 q hq)
        · rw [List.mem_singleton.1 hq]
          exact meetX_out hlX hlen
    cases hc : chg (famW fs.sls) l.toNat (behindF R (f.code.getD k default) a) with
    | false =>
      have := hm.eq hc
      rw [this] at hk'
      exact same hk'
    | true =>
      by_cases hkl : k' = l.toNat
      · left
        rw [htd, if_pos hc, hkl]
        simp
      · refine same ?_
        rw [hfm] at hk'
        unfold meetX at hk'
        rw [famAt_set hlX, if_neg hkl] at hk'
        exact hk'
  · unfold meas
    rw [htd]
    cases hc : chg (famW fs.sls) l.toNat (behindF R (f.code.getD k default) a) with
    | false => have := hm.le; simp only [Bool.false_eq_true, if_false]; omega
    | true => have := hm.lt hc; simp only [if_true, List.length_append, List.length_cons, List.length_nil]; omega
  · rw [htd]
    cases hc : chg (famW fs.sls) l.toNat (behindF R (f.code.getD k default) a) with
    | false => have := hm.le; simp only [Bool.false_eq_true, if_false]; omega
    | true => have := hm.lt hc; simp only [if_true, List.length_append, List.length_cons, List.length_nil]; omega
theorem WJ.tos {f : Fn} {R W n K k : Nat} {a : List Bool} (hn : n = f.code.length) (hR : R ≤ W) (hk : k < n) (hal : a.length = W) (ha : ∀ Y, Sol f R W Y → leO (famAt Y k) (some a)) (hin : ∀ l ∈ nextF (whL f.code) (f.code.getD k default) k, 0 ≤ l ∧ l.toNat < n) :
    ∀ (rest ls : List Int) {fs fs' : FS}, (∀ l ∈ rest, l ∈ nextF (whL f.code) (f.code.getD k default) k) → WJ f R W n K fs (fun k' a' => k' = k ∧ a' = a ∧ ∀ q ∈ ls, leO (famAt (famW fs.sls) q.toNat) (some (behindF R (f.code.getD k default) a))) → Tos n K (behindF R (f.code.getD k default) a) (rest.map Int.toNat) fs fs' →
      WJ f R W n K fs' (fun k' a' => k' = k ∧ a' = a ∧ ∀ q ∈ ls ++ rest, leO (famAt (famW fs'.sls) q.toNat) (some (behindF R (f.code.getD k default) a))) ∧ meas W fs' ≤ meas W fs ∧ 2 * pot W (famW fs'.sls) + fs'.todo.length ≤ 2 * pot W (famW fs.sls) + fs.todo.length
  | [], ls, fs, fs', _, h, ht => by
    rw [show fs' = fs from ht, List.append_nil]
    exact ⟨h, Nat.le_refl _, Nat.le_refl _⟩
  | l :: r, ls, fs, fs', hr, h, ⟨fs1, h1, h2⟩ => by
    obtain ⟨q1, q2, _, q4⟩ := h.to hn hR hk hal ha (hr l List.mem_cons_self) (hin l (hr l List.mem_cons_self)).2 h1
    obtain ⟨p1, p2, p3⟩ := WJ.tos hn hR hk hal ha hin r (ls ++ [l]) (fun x hx => hr x (List.mem_cons_of_mem _ hx)) q1 h2
    rw [List.append_assoc] at p1
    exact ⟨p1, by omega, by omega⟩
/-- A round: the last that is to be done is done. -/
theorem WI.round {p : Prog} {f : Fn} {R W n K : Nat} {fs fs' : FS} {a : List Bool} (hf : FnOk p f) (hn : n = f.code.length) (hR : R ≤ W) (h : WI f R W n K fs) (h0 : 0 < fs.todo.length)
    (hX : famAt (famW fs.sls) (fs.todo.getD (fs.todo.length - 1) default) = some a) (hok : readOkB R (f.code.getD (fs.todo.getD (fs.todo.length - 1) default) default) a = true) {tA : Option Addr} {tc : Nat}
    (ht : Tos n K (behindF R (f.code.getD (fs.todo.getD (fs.todo.length - 1) default) default) a) ((nextF (whL f.code) (f.code.getD (fs.todo.getD (fs.todo.length - 1) default) default) (fs.todo.getD (fs.todo.length - 1) default)).map Int.toNat) ⟨fs.sls, fs.todo.take (fs.todo.length - 1), tA, tc⟩ fs') :
    WI f R W n K fs' ∧ meas W fs' ≤ meas W fs ∧ 2 * pot W (famW fs'.sls) + fs'.todo.length < 2 * pot W (famW fs.sls) + fs.todo.length := by
  have hmem := getD_mem (l := fs.todo) (j := fs.todo.length - 1) (by omega)
  have hsplit : fs.todo = fs.todo.take (fs.todo.length - 1) ++ [fs.todo.getD (fs.todo.length - 1) default] := by
    conv => lhs; rw [← List.take_length (l := fs.todo), show fs.todo.length = (fs.todo.length - 1) + 1 by omega]
    exact take_gd (by omega)
  generalize fs.todo.getD (fs.todo.length - 1) default = k at *
  have hk := (h.todo k hmem).1
  have hal := h.fin.bits k a hX
  have hha : ∀ Y, Sol f R W Y → leO (famAt Y k) (some a) := fun Y hY => by
    have := h.ab Y hY k
    rwa [hX] at this
  have hJ : WJ f R W n K ⟨fs.sls, fs.todo.take (fs.todo.length - 1), tA, tc⟩ (fun k' a' => k' = k ∧ a' = a ∧ ∀ q ∈ ([] : List Int), leO (famAt (famW fs.sls) q.toNat) (some (behindF R (f.code.getD k default) a))) := by
    refine ⟨⟨h.fok.len, h.fok.ok, h.fok.lenK⟩, h.fin, h.ab, h.fst, fun t q => h.todo t (List.mem_of_mem_take q), fun k' a' hk' => ?_⟩
    rcases h.clo k' a' hk' with q | q | q
    · rw [hsplit] at q
      rcases List.mem_append.1 q with q | q
      · exact .inl q
      · rw [List.mem_singleton] at q
        subst q
        refine .inr (.inr ⟨rfl, ?_, fun _ hq => (by cases hq)⟩)
        have e : some a' = some a := hk'.symm.trans hX
        exact Option.some.inj e
    · exact .inr (.inl q)
    · exact absurd q id
  obtain ⟨p1, p2, p3⟩ := WJ.tos hn hR hk hal hha (fun l hl => by have := next_in hf (by omega) l hl; omega) _ [] (fun _ hl => hl) hJ ht
  have htl : (fs.todo.take (fs.todo.length - 1)).length = fs.todo.length - 1 := by rw [List.length_take]; omega
  refine ⟨⟨p1.fok, p1.fin, p1.ab, p1.fst, p1.todo, fun k' a' hk' => ?_⟩, ?_, ?_⟩
  · rcases p1.clo k' a' hk' with q | q | ⟨q1, q2, q3⟩
    · exact .inl q
    · exact .inr (.inl q)
    · subst q1; subst q2
      exact .inr (.inl ⟨hok, fun l hl => q3 l (by simpa using hl)⟩)
  · unfold meas at p2 ⊢
    simp only [htl] at p2
    omega
  · simp only [htl] at p3
    omega
theorem WI.done {f : Fn} {W n K : Nat} {fs : FS} (hn : n = f.code.length) (h : WI f f.regs.toNat W n K fs) (h0 : fs.todo.length = 0) : SF f W := by
  have hnil : fs.todo = [] := List.eq_nil_of_length_eq_zero h0
  have hc : ∀ k a, famAt (famW fs.sls) k = some a → closed f f.regs.toNat (famW fs.sls) k a := fun k a hk => by
    rcases h.clo k a hk with q | q | q
    · rw [hnil] at q; cases q
    · exact q
    · exact absurd q id
  exact ⟨famW fs.sls, ⟨h.fin.len, h.fin.bits, h.fst, fun k a _ ha l hl => (hc k a ha).2 l hl⟩, fun k a _ ha => (hc k a ha).1⟩
/-! ### as it begins -/
def firstW (K j : Nat) : List Wd64 := (List.range j).foldl putW (List.replicate K 0#64)
theorem firstW_succ (K j : Nat) : firstW K (j + 1) = putW (firstW K j) j := by
  unfold firstW
  rw [List.range_succ, List.foldl_append]
  rfl
theorem firstW_len (K : Nat) : ∀ j, (firstW K j).length = K
  | 0 => by unfold firstW; simp
  | j + 1 => by rw [firstW_succ, putW_len, firstW_len K j]
theorem firstW_abs {K R : Nat} : ∀ {j : Nat}, j ≤ 64 * K → absB (firstW K j) = firstF R (64 * K) j
  | 0, _ => by unfold firstW firstF; rw [show (List.range 0).foldl putW (List.replicate K 0#64) = List.replicate K 0#64 from rfl, abs_zero]; simp
  | j + 1, h => by
    rw [firstW_succ, abs_put (by rw [firstW_len]; omega), firstW_abs (R := R) (by omega)]
    unfold firstF
    rw [List.set_append_right _ _ (by simp)]
    simp only [List.length_replicate, Nat.sub_self]
    rw [show 64 * K - j = (64 * K - (j + 1)) + 1 by omega, List.replicate_succ, List.set_cons_zero, List.replicate_succ', List.append_assoc]
    rfl
def fs0 (n : Nat) : FS := ⟨List.replicate n ⟨none, 0, none⟩, [], none, 0⟩
theorem fs0_ok (n K : Nat) : FOk n K (fs0 n) := ⟨by unfold fs0; simp, fun s hs => by rw [(List.mem_replicate.1 hs).2]; rfl, fun s hs ws e => by rw [(List.mem_replicate.1 hs).2] at e; cases e⟩
theorem fs0_at (n k : Nat) : famAt (famW (fs0 n).sls) k = none := by
  unfold fs0 famW famAt
  rw [List.map_replicate, List.getD_eq_getElem?_getD, List.getElem?_replicate]
  split <;> rfl
theorem fs0_pot (n W : Nat) : pot W (famW (fs0 n).sls) = n * (W + 1) := by
  unfold fs0 famW pot
  rw [List.map_replicate, List.map_replicate]
  simp [potO]
theorem WI.start {f : Fn} {R n K : Nat} {fs : FS} (hn : n = f.code.length) (h0 : 0 < n) (hP : f.params.toNat ≤ 64 * K) (h : ToR n K (fs0 n) 0 (firstF R (64 * K) f.params.toNat) fs) : WI f R (64 * K) n K fs ∧ meas (64 * K) fs ≤ n * (64 * K + 1) := by
  have hfl : (firstF R (64 * K) f.params.toNat).length = 64 * K := first_len hP
  have hlen : (famW (fs0 n).sls).length = n := by unfold famW fs0; simp
  have hat : ∀ k, famAt (famW fs.sls) k = if k = 0 then some (firstF R (64 * K) f.params.toNat) else none := fun k => by
    rw [h.fam]
    unfold meetX
    rw [famAt_set (by omega), fs0_at]
    split
    · rfl
    · exact fs0_at n k
  have hchg : chg (famW (fs0 n).sls) 0 (firstF R (64 * K) f.params.toNat) = true := by unfold chg; rw [fs0_at]
  have htd : fs.todo = [0] := by rw [h.todo, if_pos hchg]; rfl
  refine ⟨⟨h.ok, ⟨by rw [h.fam]; unfold meetX; rw [List.length_set, hlen, hn], fun k a ha => ?_⟩, fun Y hY k => ?_, ⟨_, by rw [hat, if_pos rfl], leB.refl _⟩, fun t q => ?_, fun k a ha => ?_⟩, ?_⟩
  · rw [hat] at ha
    split at ha
    · simp only [Option.some.injEq] at ha
      rw [← ha]; exact hfl
    · cases ha
  · rw [hat]
    split
    · rename_i hk
      subst hk
      obtain ⟨a, h1, h2⟩ := hY.first
      rw [h1]; exact h2
    · cases famAt Y k <;> trivial
  · rw [htd, List.mem_singleton] at q
    subst q
    exact ⟨h0, by rw [hat, if_pos rfl]; rfl⟩
  · rw [hat] at ha
    split at ha
    · rename_i hk; left; rw [htd, hk]; simp
    · cases ha
  · unfold meas
    have := pot_set (W := 64 * K) (X := famW (fs0 n).sls) (k := 0) (v := some (firstF R (64 * K) f.params.toNat)) (by omega)
    have e : famW fs.sls = (famW (fs0 n).sls).set 0 (some (firstF R (64 * K) f.params.toNat)) := by
      rw [h.fam]
      unfold meetX
      rw [fs0_at]
    rw [e, htd]
    rw [fs0_at, fs0_pot] at this
    have hc := count_le (firstF R (64 * K) f.params.toNat)
    simp only [potO] at this
    simp only [List.length_cons, List.length_nil]
    omega
theorem td_at {l : List Nat} {j : Nat} (h : j < l.length) : (l.map zn)[j * 1 + 0]? = some (zn (l.getD j default)) := by
  rw [Nat.mul_one, Nat.add_zero, List.getElem?_map, List.getElem?_eq_getElem h, gd h]; rfl
theorem perm13 {α : Type} {a b c : α} {l : List α} : (a :: b :: c :: l).Perm (c :: b :: a :: l) := List.Perm.trans (List.Perm.swap _ _ _) (List.Perm.trans (List.Perm.cons _ (List.Perm.swap _ _ _)) (List.Perm.swap _ _ _))
section
variable {cx : Cx} {env : Env} {S : St} {code : Code} {Q : Exit → Env → St → Prop}
/-- A row of which less is shown. -/
theorem AW.shrink {n c k : Nat} {A : Option Addr} {e : TypeId} {cs : List T} (i m : Nat) (hi : S[i]? = some (.row A n c e k cs)) (hm : m ≤ n) (h : AW cx code Q env (S.set i (.row A m c e k (cs.take (m * k))))) : AW cx code Q env S := fun a w hs => by
  obtain ⟨us, ⟨r1, r2, r3, r4⟩, hV⟩ := hs.row hi
  have hmk : m * k ≤ n * k := Nat.mul_le_mul_right k hm
  refine h a w (hs.setEnt hi rfl (fun _ _ _ => rfl) rfl rfl rfl rfl ⟨us.take (m * k), ⟨by rw [List.length_take, r1]; omega, r2, by omega, ?_⟩, hV.take _⟩)
  rcases r4 with ⟨h1, h2, h3⟩ | ⟨g, cur, fr, h1, h2, h3, h4, h5⟩
  · exact .inl ⟨h1, by omega, h3⟩
  · refine .inr ⟨g, cur, fr, h1, h2, h3, h4, ?_⟩
    rw [← h5, List.take_take, Nat.min_eq_left hmk]
end
end Go.Proofs.Ytlfklgganokgdaa
