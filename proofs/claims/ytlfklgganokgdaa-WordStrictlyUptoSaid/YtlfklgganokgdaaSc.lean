/-
  TEXTS JOINED: Wk9, Wy, Wk10, Aw31, Wp, Wk11.
-/
import Derived.Test.YtlfklgganokgdaaSb
set_option linter.unusedSimpArgs false
set_option linter.unusedVariables false
set_option linter.unusedSectionVars false
set_option linter.unnecessarySimpa false
namespace Go.Proofs.Ytlfklgganokgdaa
open Go Go.RowKit

set_option maxHeartbeats 16000000 in
theorem step39_ (p : Prog) (bw : Nat) (f : Fn) (m : Nat) (aA : Option Addr) (n K R : Nat) (fs : FS) (k : Nat) (hp : FnIn f) (hf : FnOk p f) (hR : f.regs = (R : Int)) (h : FOk n K fs) (hnf : n = f.code.length) (hk : k < n) (hK : f.regs + f.slots ≤ 64 * K) (hK2 : K ≤ 17409) (hv : (fs.sls.getD k default).v = some (fs.sls.getD k default).ws) (ht : fs.todo.length ≤ 4398046511000) :
    ACalls Try.prog 39 [.v (.pointer (some ⟨bw, 0, none⟩)), zn k] (.map m (lmT (whL f.code)) :: FSt bw f m aA n fs) (fun t S => ∃ fs', t = bv (readOkB R (f.code.getD k default) (absB (fs.sls.getD k default).ws)) ∧ ((readOkB R (f.code.getD k default) (absB (fs.sls.getD k default).ws)) = true → Tos n K (behindF R (f.code.getD k default) (absB (fs.sls.getD k default).ws)) ((nextF (whL f.code) (f.code.getD k default) k).map Int.toNat) fs fs') ∧ (.map m (lmT (whL f.code)) :: FSt bw f m aA n fs').Sublist S) := by
 have hkl : k < fs.sls.length := by rw [h.len]; exact hk
 have hwk := h.lenK _ (getD_mem hkl) _ hv
 subst hwk
 have hkc : k < f.code.length := by omega
 have hfc := hp.code
 have hio := hf.ins _ (getD_mem hkc)
 have hin := hp.ins _ (getD_mem hkc)
 have hf2 := hf.par2
 have hf3 := hf.regs
 have hf4 := hf.slot0
 have hf5 := hf.slot1
 have hslot := hio.slot
 have hRW : R ≤ 64 * (fs.sls.getD k default).ws.length := by omega
 have hbh := wb3_abs (ws := (fs.sls.getD k default).ws) hR hio hK hf4
 refine ACalls.intro Try.func39 rfl Try.ntmps39 nB rfl fun X w0 => ?_
 refine ra ?_
 refine AW.rseqP rfl ?_
 refine T1 (i := 0) rfl (freeMove rfl (E rfl rfl)) ?_
 refine T1 (i := 1) rfl (freeNil rfl (E rfl rfl)) ?_
 refine T1 (i := 2) rfl (freeField rfl fo_100_0 (E rfl rfl)) ?_
 refine T1 (i := 3) rfl (freeField rfl fo_51_4 (E rfl rfl)) ?_
 refine T1 (i := 5) rfl (freeMove rfl (E rfl rfl)) ?_
 refine T1 (i := 9) rfl (freeMove rfl (E rfl rfl)) ?_
 refine T1 (i := 10) rfl (freeNil rfl (E rfl rfl)) ?_
 refine T1 (i := 11) rfl (freeField rfl fo_100_2 (E rfl rfl)) ?_
 refine T1 (i := 13) rfl (freeMove rfl (E rfl rfl)) ?_
 refine AWP.node (ι := Option Addr × Option Addr × Nat × Nat × Nat) 0 (bA 21 2097151) (fun ⟨A19, A27, c27, b5, b6⟩ => [(5, true, pv b5), (6, true, pv b6), (0, true, pv bw), (1, true, zn k)]) (fun ⟨A19, A27, c27, b5, b6⟩ => (.row A27 (fs.sls.getD k default).ws.length c27 39 1 (((fs.sls.getD k default).ws).map zw) :: .box b5 58 (insCells (f.code.getD k default)) :: .box b6 101 [.v (.slice A27 (fs.sls.getD k default).ws.length c27)] :: .map m (lmT (whL f.code)) :: FSt bw f m aA n fs)) (fun ⟨A19, A27, c27, b5, b6⟩ => A19.isSome = true ∧ A27.isSome = true) ?_ ?_
 ·rintro ⟨A19, A27, c27, b5, b6⟩ ⟨hA19, hA27⟩
  refine AWP.done (by kernel_rfl) ?_
  refine AW.eqS (S' := .row A27 (fs.sls.getD k default).ws.length c27 39 1 (((fs.sls.getD k default).ws).map zw) :: .box b5 58 (insCells (f.code.getD k default)) :: .box b6 101 [.v (.slice A27 (fs.sls.getD k default).ws.length c27)] :: .map m (lmT (whL f.code)) :: FSt bw f m aA n fs) rfl ?_
  refine rs ?_
  refine AWL.allocOp rfl rfl (B rfl) rfl zc_4 (fun b7 => ?_)
  refine AWL.perm (List.perm_append_singleton _ _).symm ?_
  refine AWL.storeBox (i := 0) rfl rfl rfl ag_4 rfl (E rfl rfl) (E rfl rfl) rfl rfl nB (nl ?_)
  refine AW.perm (S' := (.row A27 (fs.sls.getD k default).ws.length c27 39 1 (((fs.sls.getD k default).ws).map zw) :: .box b7 4 [bv (true)] :: .box b6 101 [.v (.slice A27 (fs.sls.getD k default).ws.length c27)] :: .box b5 58 (insCells (f.code.getD k default)) :: .map m (lmT (whL f.code)) :: FSt bw f m aA n fs)) ((List.Perm.swap _ _ _).trans (((List.Perm.swap _ _ _).cons _).cons _)) ?_
  refine rs (Y1 (Yv.loadBoxA rfl ag_58 (i := 3) rfl eV rfl rfl) ?_)
  refine Y1 (Yv.makeFunc rfl evs0 rfl (evsC eV (evsC eV evs0)) rfl) ?_
  refine C1 rfl ce_49 (E rfl rfl) (evsC (E rfl rfl) (evsC (E rfl rfl) evs0)) (S1 := [.row A27 (fs.sls.getD k default).ws.length c27 39 1 (((fs.sls.getD k default).ws).map zw), .box b7 4 [bv (true)], .box b6 101 [.v (.slice A27 (fs.sls.getD k default).ws.length c27)]]) (S2 := _) rfl (reads49S p f (cntL f.code) (f.code.getD k default) b7 b6 A27 (fs.sls.getD k default).ws.length c27 (fs.sls.getD k default).ws true hio hin.args rfl (by omega) (by omega)) ?_
  rintro t30 S30 ⟨rfl, rfl⟩
  refine nl ?_
  refine AW.eqS (S' := (.row A27 (fs.sls.getD k default).ws.length c27 39 1 (((fs.sls.getD k default).ws).map zw) :: .box b7 4 [bv (true && ((readsF (f.code.getD k default)).all fun r => bitW (fs.sls.getD k default).ws r.toNat))] :: .box b6 101 [.v (.slice A27 (fs.sls.getD k default).ws.length c27)] :: .box b5 58 (insCells (f.code.getD k default)) :: .map m (lmT (whL f.code)) :: FSt bw f m aA n fs)) rfl ?_
  refine AW.mid (α := Unit) (fun _ => [(0, true, pv bw), (1, true, zn k), (5, true, pv b5), (6, true, pv b6), (7, true, pv b7)]) (fun _ => (.row A27 (fs.sls.getD k default).ws.length c27 39 1 (((fs.sls.getD k default).ws).map zw) :: .box b7 4 [bv ((readOkB R (f.code.getD k default) (absB (fs.sls.getD k default).ws)))] :: .box b6 101 [.v (.slice A27 (fs.sls.getD k default).ws.length c27)] :: .box b5 58 (insCells (f.code.getD k default)) :: .map m (lmT (whL f.code)) :: FSt bw f m aA n fs)) (fun _ => True) ?_ ?_
  ·refine rs (yf fo_58_0 ?_)
   refine yl ag_3 3 ?_
   refine Y1 (Yv.eql rfl eV eV) (nl ?_)
   refine AW.cond rfl (fun h0t => ?_) (fun h0f => ?_)
   ·try replace h0t := odt h0t
    refine AW.regionP rfl ?_
    refine AWP.phase [true, true, true, true, true, true, true, true, true, true, true] 3 rfl (by kernel_rfl) (by kernel_rfl) ?_
    refine ql ag_4 1 ?_
    refine qm ?_
    refine kT (Yv.loadBox rfl ag_101 (i := 2) rfl eV rfl) ?_
    refine kT (Yv.move rfl eV) ?_
    refine kT (Yv.nilChk rfl (Eg rfl rfl id)) ?_
    refine kT (Yv.fieldBox rfl fo_100_0 (Eg rfl rfl id)) ?_
    refine kT (Yv.fieldBox rfl fo_51_2 (Eg rfl rfl id)) ?_
    refine kT (Yv.loadBox rfl ag_3 (i := 5) rfl (Eg rfl rfl id) rfl) ?_
    refine kT (Yv.fieldBox rfl fo_58_9 eV) ?_
    refine kT (Yv.loadBox rfl ag_2 (i := 3) rfl (Eg rfl rfl id) rfl) ?_
    refine kT (Yv.eqT (t' := zn (R + (f.code.getD k default).imm.toNat)) (Yv.addN_i64 rfl (Eg rfl rfl id) (Eg rfl rfl id) (fun hg => by omega)) (by unfold zn; rw [show f.regs + (f.code.getD k default).imm = ((R + (f.code.getD k default).imm.toNat : Nat) : Int) by omega])) ?_
    refine AWQ.nil ?_
    refine p1 11 ?_
    refine AWL.callKgT rfl rfl rfl rfl (B rfl) rfl ce_61 (E rfl rfl) (evsC (Eg rfl rfl id) (evsC (Eg rfl rfl id) evs0)) (S1 := [.row A27 (fs.sls.getD k default).ws.length c27 39 1 (((fs.sls.getD k default).ws).map zw)]) (S2 := _) rfl (fun hg => has61 A27 (fs.sls.getD k default).ws.length c27 (fs.sls.getD k default).ws (R + (f.code.getD k default).imm.toNat) rfl (by omega) (by omega)) (fun t S h => h) (nl ?_)
    refine p1 12 ?_
    refine Y1 (Yv.pickAnd rfl eV (Eg rfl rfl id)) (nl ?_)
    refine p1 13 ?_
    refine AWL.storeBox (i := 1) rfl rfl rfl ag_4 rfl (E rfl rfl) (E rfl rfl) rfl rfl nB (nl ?_)
    refine AWP.done (by kernel_rfl) ?_
    refine ⟨(), trivial, (su (su (su (su (su sn))))), ?_⟩
    rw [readOk_abs, decide_eq_true h0t]
    simp
    rfl
   try replace h0f := odf h0f
   refine AW.skip ?_
   refine ⟨(), trivial, (su (su (su (su (su sn))))), ?_⟩
   rw [readOk_abs, decide_eq_false h0f]
   simp
  rintro _ hmid
  refine AW.seq ?_
  refine rs (yl ag_4 1 ?_)
  refine Y1 (Yv.not rfl eV) (nl ?_)
  refine AW.cond rfl (fun h1t => ?_) (fun h1f => ?_)
  ·have hbad : (readOkB R (f.code.getD k default) (absB (fs.sls.getD k default).ws)) = false := by simpa using h1t
   refine ra ?_
   refine AW.ret (retI (.tmp rfl .nil) ?_)
   refine ⟨fs, by rw [hbad]; rfl, fun q => absurd (hbad.symm.trans q) (by decide), List.sublist_append_right ([_, _, _, _] : St) _⟩
  have hgood : (readOkB R (f.code.getD k default) (absB (fs.sls.getD k default).ws)) = true := by simpa using h1f
  refine AW.skip ?_
  refine AW.mid (α := Unit) (fun _ => [(0, true, pv bw), (1, true, zn k), (5, true, pv b5), (6, true, pv b6), (7, true, pv b7)]) (fun _ => (.row A27 (fs.sls.getD k default).ws.length c27 39 1 ((wb1 R (f.code.getD k default) (fs.sls.getD k default).ws).map zw) :: .box b7 4 [bv ((readOkB R (f.code.getD k default) (absB (fs.sls.getD k default).ws)))] :: .box b6 101 [.v (.slice A27 (fs.sls.getD k default).ws.length c27)] :: .box b5 58 (insCells (f.code.getD k default)) :: .map m (lmT (whL f.code)) :: FSt bw f m aA n fs)) (fun _ => True) ?_ ?_
  ·refine rs (yf fo_58_0 ?_)
   refine yl ag_3 3 ?_
   refine Y1 (Yv.eql rfl eV eV) ?_
   refine ym ?_
   refine gF (Yv.fieldBox rfl fo_58_0 eV) ?_
   refine gF (Yv.loadBox rfl ag_3 (i := 3) rfl (Eg rfl rfl id) rfl) ?_
   refine gF (Yv.eql rfl (Eg rfl rfl id) eV) ?_
   refine Y1 (Yv.pickOr (t := .const (.bool true)) rfl eV (Eg rfl rfl id)) (nl ?_)
   refine AW.cond rfl (fun h2t => ?_) (fun h2f => ?_)
   ·simp only [ne_eq, Bool.or_eq_true, Bool.and_eq_true, Bool.not_eq_true', decide_eq_true_eq, decide_eq_false_iff_not] at h2t
    refine rs (ym ?_)
    refine Y1 (Yv.nilChk rfl eV) ?_
    refine yf fo_100_0 ?_
    refine yf fo_51_2 ?_
    refine yl ag_3 5 ?_
    refine ym (nl ?_)
    refine AW.block ?_
    refine AW.loop (fun (r : Nat) => [(0, true, pv bw), (1, true, zn k), (5, true, pv b5), (6, true, pv b6), (7, true, pv b7), (61, true, zi f.regs), (62, true, zn r)]) (fun (r : Nat) => (.row A27 (fs.sls.getD k default).ws.length c27 39 1 ((clrTo (fs.sls.getD k default).ws r).map zw) :: .box b7 4 [bv ((readOkB R (f.code.getD k default) (absB (fs.sls.getD k default).ws)))] :: .box b6 101 [.v (.slice A27 (fs.sls.getD k default).ws.length c27)] :: .box b5 58 (insCells (f.code.getD k default)) :: .map m (lmT (whL f.code)) :: FSt bw f m aA n fs)) (fun (r : Nat) => r ≤ R) (fun (r : Nat) => R - r) 0 ?_ ?_ ?_ ?_
    ·exact Nat.zero_le _
    ·exact (su (su (su (su (su (su (su sn)))))))
    ·rfl
    intro r hinv
    refine rs (Y1 (Yv.lss rfl eV eV) (nl ?_))
    refine AW.seq ?_
    refine AW.cond rfl (fun h3t => ?_) (fun h3f => ?_)
    ·try replace h3t := odt h3t
     have hrR : r < R := by omega
     refine AW.skip ?_
     refine AW.seq ?_
     refine AW.block ?_
     refine rs (ym ?_)
     refine ya ?_
     refine AW.regionP rfl ?_
     refine AWP.phase [true, true, true, true, true, true, true, true, true, true] 1 rfl (by kernel_rfl) (by kernel_rfl) ?_
     refine ql ag_101 2 ?_
     refine qm ?_
     refine Q1 (Yv.eqT (t' := .v (.int .i64 ((r / 64 : Nat) : Int))) (Yv.quoN_i64 rfl eV eV (fun hg => by omega)) rfl) ?_
     refine Q1 (Yv.indexRow rfl ss_101 (i := 0) rfl eV eV (fun hg => ⟨rfl, by omega⟩)) ?_
     refine Q1 (Yv.loadEp rfl ag_39 (i := 0) rfl eV (fun hg => word_at (by rw [clrTo_len]; omega))) ?_
     refine qm ?_
     refine Q1 (Yv.eqT (t' := .v (.int .i64 ((r % 64 : Nat) : Int))) (Yv.remN rfl eV eV (fun hg => by omega)) rfl) ?_
     refine Q1 (Yv.shlW (a := 1#64) rfl (E rfl rfl) (E rfl rfl) (Nat.mod_lt r (by decide))) ?_
     refine Q1 (Yv.andNotW rfl eV eV) ?_
     refine Q1 (Yv.indexRow rfl ss_101 (i := 0) rfl eV eV (fun hg => ⟨rfl, by omega⟩)) ?_
     refine AWQ.nil ?_
     refine p1 10 ?_
     refine AWL.storeEp1 (i := 0) rfl rfl rfl ag_39 rfl (E rfl rfl) (E rfl rfl) rfl rfl (by rw [List.length_map, clrTo_len]; omega) (nl ?_)
     refine AWP.done (by kernel_rfl) ?_
     refine AW.region ?_
     refine Y1 (Yv.addN_i64 rfl eV eV (fun hg => by omega)) ?_
     refine ym (nl ?_)
     refine ⟨r + 1, by omega, by omega, (su (su (su (su (su (su (Sub.cons rfl (by unfold zn; simp) Sub.nil))))))), ?_⟩
     rw [clrTo_succ, clrW, ← map_set, Nat.mul_one]
     rfl
    try replace h3f := odf h3f
    refine AW.exit ?_
    refine ⟨(), trivial, (su (su (su (su (su sn))))), ?_⟩
    obtain rfl : r = R := by omega
    rw [wb1, if_pos h2t]
   replace h2f : ¬ (_ = true) := fun q => Bool.false_ne_true (h2f.symm.trans q)
   simp only [ne_eq, Bool.or_eq_true, Bool.and_eq_true, Bool.not_eq_true', decide_eq_true_eq, decide_eq_false_iff_not] at h2f
   refine AW.skip ?_
   refine ⟨(), trivial, (su (su (su (su (su sn))))), ?_⟩
   rw [wb1, if_neg h2f]
  rintro _ hmid
  refine AW.mid (α := Nat) (fun b9 => [(0, true, pv bw), (1, true, zn k), (5, true, pv b5), (6, true, pv b6), (7, true, pv b7), (9, true, pv b9)]) (fun b9 => (.row A27 (fs.sls.getD k default).ws.length c27 39 1 ((wb2 R (f.code.getD k default) (fs.sls.getD k default).ws).map zw) :: .box b9 122 (hasCells (hasF (f.code.getD k default).kind)) :: .box b7 4 [bv ((readOkB R (f.code.getD k default) (absB (fs.sls.getD k default).ws)))] :: .box b6 101 [.v (.slice A27 (fs.sls.getD k default).ws.length c27)] :: .box b5 58 (insCells (f.code.getD k default)) :: .map m (lmT (whL f.code)) :: FSt bw f m aA n fs)) (fun _ => True) ?_ ?_
  ·refine rs (yf fo_58_0 ?_)
   refine yl ag_3 3 ?_
   refine AWL.callT rfl rfl (B rfl) rfl ce_57 (E rfl rfl) (evsC (E rfl rfl) evs0) (fields57 (f.code.getD k default).kind) ?_
   rintro t79 S79 rfl
   refine ym ?_
   refine Y1 (Yv.extract rfl eV rfl) ?_
   refine Y1 (Yv.extract rfl eV rfl) ?_
   refine AWL.allocOp rfl rfl (B rfl) rfl zc_122 (fun b9 => ?_)
   refine AWL.perm (List.perm_append_singleton _ _).symm ?_
   refine AWL.storeBox (i := 0) rfl rfl rfl ag_122 rfl (E rfl rfl) (E rfl rfl) rfl rfl nB ?_
   refine ya ?_
   refine AW.perm (S' := (.row A27 (fs.sls.getD k default).ws.length c27 39 1 ((wb1 R (f.code.getD k default) (fs.sls.getD k default).ws).map zw) :: .box b9 122 (hasCells (hasF (f.code.getD k default).kind)) :: .box b7 4 [bv ((readOkB R (f.code.getD k default) (absB (fs.sls.getD k default).ws)))] :: .box b6 101 [.v (.slice A27 (fs.sls.getD k default).ws.length c27)] :: .box b5 58 (insCells (f.code.getD k default)) :: .map m (lmT (whL f.code)) :: FSt bw f m aA n fs)) (List.Perm.swap _ _ _) ?_
   refine rs (yf fo_122_0 ?_)
   refine yl ag_4 1 (nl ?_)
   refine AW.cond rfl (fun h4t => ?_) (fun h4f => ?_)
   ·have hd := hio.d h4t
    have hdd := wb1_len (R := R) (i := (f.code.getD k default)) (ws := (fs.sls.getD k default).ws)
    refine AW.region ?_
    refine yl ag_101 3 ?_
    refine yf fo_58_1 ?_
    refine Y1 (Yv.eqT (t' := zn (f.code.getD k default).d.toNat) (Yv.loadBox rfl ag_3 (i := 4) rfl eV rfl) (by unfold zn; rw [Int.toNat_of_nonneg hd.1]; rfl)) ?_
    refine C1 rfl ce_37 (E rfl rfl) (evsC (E rfl rfl) (evsC (E rfl rfl) evs0)) (S1 := [.row A27 (fs.sls.getD k default).ws.length c27 39 1 ((wb1 R (f.code.getD k default) (fs.sls.getD k default).ws).map zw)]) (S2 := _) rfl (put37 A27 (fs.sls.getD k default).ws.length c27 (wb1 R (f.code.getD k default) (fs.sls.getD k default).ws) (f.code.getD k default).d.toNat wb1_len (by omega) (by omega)) ?_
    rintro t87 S87 ⟨rfl, rfl⟩
    refine nl ?_
    refine ⟨b9, trivial, (su (su (su (su (su (su sn)))))), ?_⟩
    rw [wb2, if_pos h4t]
    rfl
   refine AW.skip ?_
   refine ⟨b9, trivial, (su (su (su (su (su (su sn)))))), ?_⟩
   rw [wb2, if_neg (by rw [show (hasF (f.code.getD k default).kind).d = false from h4f]; decide)]
  rintro b9 _
  refine AW.mid (α := Unit) (fun _ => [(0, true, pv bw), (1, true, zn k), (5, true, pv b5), (6, true, pv b6), (7, true, pv b7), (9, true, pv b9)]) (fun _ => (.row A27 (fs.sls.getD k default).ws.length c27 39 1 ((wb3 R (f.code.getD k default) (fs.sls.getD k default).ws).map zw) :: .box b9 122 (hasCells (hasF (f.code.getD k default).kind)) :: .box b7 4 [bv ((readOkB R (f.code.getD k default) (absB (fs.sls.getD k default).ws)))] :: .box b6 101 [.v (.slice A27 (fs.sls.getD k default).ws.length c27)] :: .box b5 58 (insCells (f.code.getD k default)) :: .map m (lmT (whL f.code)) :: FSt bw f m aA n fs)) (fun _ => True) ?_ ?_
  ·refine rs (yf fo_58_0 ?_)
   refine yl ag_3 4 ?_
   refine Y1 (Yv.eql rfl eV eV) (nl ?_)
   refine AW.cond rfl (fun h5t => ?_) (fun h5f => ?_)
   ·try replace h5t := odt h5t
    have hs5 := hslot (.inr h5t)
    refine AW.regionP rfl ?_
    refine AWP.phase [true, true, true, true, true, true, true, true, true] 1 rfl (by kernel_rfl) (by kernel_rfl) ?_
    refine ql ag_101 3 ?_
    refine qm ?_
    refine Q1 (Yv.nilChk rfl eV) ?_
    refine qf fo_100_0 ?_
    refine qf fo_51_2 ?_
    refine ql ag_3 6 ?_
    refine qf fo_58_9 ?_
    refine ql ag_2 4 ?_
    refine Q1 (Yv.eqT (t' := zn (R + (f.code.getD k default).imm.toNat)) (Yv.addN_i64 rfl eV eV (fun hg => by omega)) (by unfold zn; rw [show f.regs + (f.code.getD k default).imm = ((R + (f.code.getD k default).imm.toNat : Nat) : Int) by omega])) ?_
    refine AWQ.nil ?_
    refine p1 9 ?_
    refine C1 rfl ce_37 (E rfl rfl) (evsC (E rfl rfl) (evsC (E rfl rfl) evs0)) (S1 := [.row A27 (fs.sls.getD k default).ws.length c27 39 1 ((wb2 R (f.code.getD k default) (fs.sls.getD k default).ws).map zw)]) (S2 := _) rfl (put37 A27 (fs.sls.getD k default).ws.length c27 (wb2 R (f.code.getD k default) (fs.sls.getD k default).ws) (R + (f.code.getD k default).imm.toNat) wb2_len (by omega) (by omega)) ?_
    rintro t100 S100 ⟨rfl, rfl⟩
    refine nl ?_
    refine AWP.done (by kernel_rfl) ?_
    refine ⟨(), trivial, (su (su (su (su (su (su sn)))))), ?_⟩
    rw [wb3, if_pos h5t]
    rfl
   try replace h5f := odf h5f
   refine AW.skip ?_
   refine ⟨(), trivial, (su (su (su (su (su (su sn)))))), ?_⟩
   rw [wb3, if_neg h5f]
  rintro _ hmid
  refine AW.mid (α := FS) (fun _ => [(0, true, pv bw), (1, true, zn k), (5, true, pv b5), (6, true, pv b6), (7, true, pv b7), (9, true, pv b9)]) (fun fs1 => (.box b9 122 (hasCells (hasF (f.code.getD k default).kind)) :: .box b7 4 [bv ((readOkB R (f.code.getD k default) (absB (fs.sls.getD k default).ws)))] :: .box b6 101 [.v (.slice A27 (fs.sls.getD k default).ws.length c27)] :: .box b5 58 (insCells (f.code.getD k default)) :: .map m (lmT (whL f.code)) :: .row A27 (fs.sls.getD k default).ws.length c27 39 1 ((wb3 R (f.code.getD k default) (fs.sls.getD k default).ws).map zw) :: FSt bw f m aA n fs1)) (fun fs1 => Tos n (fs.sls.getD k default).ws.length (absB (wb3 R (f.code.getD k default) (fs.sls.getD k default).ws)) ((nx1 (whL f.code) (f.code.getD k default)).map Int.toNat) fs fs1 ∧ FOk n (fs.sls.getD k default).ws.length fs1 ∧ fs1.todo.length ≤ fs.todo.length + 1) ?_ ?_
  ·refine AW.perm (S' := (.box b9 122 (hasCells (hasF (f.code.getD k default).kind)) :: .box b7 4 [bv ((readOkB R (f.code.getD k default) (absB (fs.sls.getD k default).ws)))] :: .box b6 101 [.v (.slice A27 (fs.sls.getD k default).ws.length c27)] :: .box b5 58 (insCells (f.code.getD k default)) :: .map m (lmT (whL f.code)) :: .row A27 (fs.sls.getD k default).ws.length c27 39 1 ((wb3 R (f.code.getD k default) (fs.sls.getD k default).ws).map zw) :: FSt bw f m aA n fs)) (List.perm_middle (l₁ := ([.box b9 122 (hasCells (hasF (f.code.getD k default).kind)), .box b7 4 [bv ((readOkB R (f.code.getD k default) (absB (fs.sls.getD k default).ws)))], .box b6 101 [.v (.slice A27 (fs.sls.getD k default).ws.length c27)], .box b5 58 (insCells (f.code.getD k default)), .map m (lmT (whL f.code))] : St))) ?_
   refine rs (yf fo_58_0 ?_)
   refine yl ag_3 3 ?_
   refine Y1 (Yv.eql rfl eV eV) ?_
   refine ym ?_
   refine gF (Yv.fieldBox rfl fo_58_0 eV) ?_
   refine gF (Yv.loadBox rfl ag_3 (i := 3) rfl (Eg rfl rfl id) rfl) ?_
   refine gF (Yv.eql rfl (Eg rfl rfl id) eV) ?_
   refine Y1 (Yv.pickOr (t := .const (.bool true)) rfl eV (Eg rfl rfl id)) (nl ?_)
   refine AW.cond rfl (fun h6t => ?_) (fun h6f => ?_)
   ·simp only [ne_eq, Bool.or_eq_true, Bool.and_eq_true, Bool.not_eq_true', decide_eq_true_eq, decide_eq_false_iff_not] at h6t
    have hlab := hio.lab (by rcases h6t with q | q <;> rw [q] <;> rfl)
    have hlb := wh_in (code := f.code) (l := (f.code.getD k default).l) (by omega)
    have hlb1 := hlb.1
    have hlb2 : (getL (f.code.getD k default).l (whL f.code)).toNat < n := by omega
    refine AW.regionP rfl ?_
    refine AWP.phase [true, true, true, true, true, true, true, true, true] 1 rfl (by kernel_rfl) (by kernel_rfl) ?_
    refine qm ?_
    refine qm ?_
    refine Q1 (Yv.nilChk rfl eV) ?_
    refine qf fo_100_1 ?_
    refine ql ag_53 6 ?_
    refine qf fo_58_4 ?_
    refine ql ag_3 3 ?_
    refine Q1 (Yv.eqT (t' := zn (getL (f.code.getD k default).l (whL f.code)).toNat) (Yv.eqT (Yv.lookup1 (k := .i _ _) (i := 4) rfl mp_53 rfl eV eV rfl (lm_good _ _ rfl)) (get_lm _ _)) (by unfold zn; rw [Int.toNat_of_nonneg hlb1]; rfl)) ?_
    refine ql ag_101 2 ?_
    refine AWQ.nil ?_
    refine p1 9 ?_
    refine AWL.callE rfl rfl (B rfl) rfl ce_38 (E rfl rfl) (evsC (E rfl rfl) (evsC (E rfl rfl) (evsC (E rfl rfl) evs0))) (F1 := [.box b9 122 (hasCells (hasF (f.code.getD k default).kind)), .box b7 4 [bv ((readOkB R (f.code.getD k default) (absB (fs.sls.getD k default).ws)))], .box b6 101 [.v (.slice A27 (fs.sls.getD k default).ws.length c27)], .box b5 58 (insCells (f.code.getD k default)), .map m (lmT (whL f.code))]) (S1 := (.row A27 (fs.sls.getD k default).ws.length c27 39 1 ((wb3 R (f.code.getD k default) (fs.sls.getD k default).ws).map zw) :: FSt bw f m aA n fs)) rfl (to38 bw f m aA n (fs.sls.getD k default).ws.length fs (getL (f.code.getD k default).l (whL f.code)).toNat A27 c27 (wb3 R (f.code.getD k default) (fs.sls.getD k default).ws) h hlb2 (by omega) (by omega) wb3_len (by omega)) ?_
    rintro t118 S118 ⟨rfl, fs1, hto, rfl⟩
    refine nl ?_
    refine AWP.done (by kernel_rfl) ?_
    refine ⟨fs1, ⟨by rw [nx1_t h6t]; exact ⟨fs1, hto, rfl⟩, hto.ok, ?_⟩, (su (su (su (su (su (su sn)))))), rfl⟩
    rw [hto.todo]
    split <;> simp
   replace h6f : ¬ (_ = true) := fun q => Bool.false_ne_true (h6f.symm.trans q)
   simp only [ne_eq, Bool.or_eq_true, Bool.and_eq_true, Bool.not_eq_true', decide_eq_true_eq, decide_eq_false_iff_not] at h6f
   refine AW.skip ?_
   refine ⟨fs, ⟨by rw [nx1_f h6f]; exact rfl, h, by omega⟩, (su (su (su (su (su (su sn)))))), rfl⟩
  rintro fs1 ⟨htos, hok1, htd0⟩
  refine AW.seq ?_
  refine rs (yf fo_58_0 ?_)
  refine yl ag_3 3 ?_
  refine AWL.callP rfl rfl (B rfl) rfl ce_34 (E rfl rfl) (evsC (E rfl rfl) evs0) (ends34 (f.code.getD k default).kind) (fun t S h => h) ?_
  refine Y1 (Yv.not rfl eV) (nl ?_)
  refine AW.cond rfl (fun h7t => ?_) (fun h7f => ?_)
  ·have hen : endsF (f.code.getD k default).kind = false := by simpa using h7t
   have hlb3 : k + 1 < n := by
    have hx := next_in hf hkc ((k : Int) + 1) (by rw [nx_f hen]; exact List.mem_append.2 (.inr List.mem_cons_self))
    omega
   have htd1 : fs1.todo.length ≤ 4398046511104 := by omega
   refine AW.region ?_
   refine ym ?_
   refine ym ?_
   refine Y1 (Yv.addN_i64 rfl eV eV (fun hg => by omega)) ?_
   refine yl ag_101 2 ?_
   refine AWL.callE rfl rfl (B rfl) rfl ce_38 (E rfl rfl) (evsC (E rfl rfl) (evsC (E rfl rfl) (evsC (E rfl rfl) evs0))) (F1 := [.box b9 122 (hasCells (hasF (f.code.getD k default).kind)), .box b7 4 [bv ((readOkB R (f.code.getD k default) (absB (fs.sls.getD k default).ws)))], .box b6 101 [.v (.slice A27 (fs.sls.getD k default).ws.length c27)], .box b5 58 (insCells (f.code.getD k default)), .map m (lmT (whL f.code))]) (S1 := (.row A27 (fs.sls.getD k default).ws.length c27 39 1 ((wb3 R (f.code.getD k default) (fs.sls.getD k default).ws).map zw) :: FSt bw f m aA n fs1)) rfl (to38 bw f m aA n (fs.sls.getD k default).ws.length fs1 (k + 1) A27 c27 (wb3 R (f.code.getD k default) (fs.sls.getD k default).ws) hok1 hlb3 (by omega) (by omega) wb3_len htd1) ?_
   rintro t127 S127 ⟨rfl, fs2, hto2, rfl⟩
   refine nl ?_
   refine ra ?_
   refine AW.ret (retI (.tmp rfl .nil) ?_)
   refine ⟨fs2, by rw [hgood]; rfl, fun _ => ?_, ?_⟩
   ·rw [nx_f hen, List.map_append, ← hbh]
    exact htos.app ⟨fs2, hto2, rfl⟩
   exact (List.Sublist.cons_cons _ (List.sublist_append_right ([_] : St) _)).trans (List.sublist_append_right ([_, _, _, _] : St) _)
  have hen : endsF (f.code.getD k default).kind = true := by simpa using h7f
  refine AW.skip ?_
  refine ra ?_
  refine AW.ret (retI (.tmp rfl .nil) ?_)
  refine ⟨fs1, by rw [hgood]; rfl, fun _ => ?_, ?_⟩
  ·rw [nx_t hen, ← hbh]
   exact htos
  exact (List.Sublist.cons_cons _ (List.sublist_append_right ([_] : St) _)).trans (List.sublist_append_right ([_, _, _, _] : St) _)
 intro n84_
 refine AWP.node (ι := Option Addr × Option Addr × Nat × Nat × Nat) 1 (bA 21 1048575) (fun ⟨A19, A27, c27, b5, b6⟩ => [(27, true, .v (.slice A27 (fs.sls.getD k default).ws.length c27)), (5, true, pv b5), (6, true, pv b6), (0, true, pv bw), (1, true, zn k)]) (fun ⟨A19, A27, c27, b5, b6⟩ => (.row A27 (fs.sls.getD k default).ws.length c27 39 1 (((fs.sls.getD k default).ws).map zw) :: .box b5 58 (insCells (f.code.getD k default)) :: z101 b6 :: .map m (lmT (whL f.code)) :: FSt bw f m aA n fs)) (fun ⟨A19, A27, c27, b5, b6⟩ => A19.isSome = true ∧ A27.isSome = true) ?_ ?_
 ·rintro ⟨A19, A27, c27, b5, b6⟩ ⟨hA19, hA27⟩
  refine p1 20 ?_ 
  refine AWL.storeBox (i := 2) rfl rfl rfl ag_101 rfl (E rfl rfl) (E rfl rfl) rfl rfl nB (nl ?_)
  exact to' (n84_ (A19, A27, c27, b5, b6) ⟨hA19, hA27⟩) (su (su (su (su sn))))
 intro n83_
 refine AWP.node (ι := Option Addr × Option Addr × Nat × Nat × Nat) 2 (bA 21 524287) (fun ⟨A19, A27, c27, b5, b6⟩ => [(18, true, .agg (insCells (f.code.getD k default))), (27, true, .v (.slice A27 (fs.sls.getD k default).ws.length c27)), (5, true, pv b5), (6, true, pv b6), (0, true, pv bw), (1, true, zn k)]) (fun ⟨A19, A27, c27, b5, b6⟩ => (.row A27 (fs.sls.getD k default).ws.length c27 39 1 (((fs.sls.getD k default).ws).map zw) :: z58 b5 :: z101 b6 :: .map m (lmT (whL f.code)) :: FSt bw f m aA n fs)) (fun ⟨A19, A27, c27, b5, b6⟩ => A19.isSome = true ∧ A27.isSome = true) ?_ ?_
 ·rintro ⟨A19, A27, c27, b5, b6⟩ ⟨hA19, hA27⟩
  refine p1 19 ?_ 
  refine AWL.storeBox (i := 1) rfl rfl rfl ag_58 rfl (E rfl rfl) (E rfl rfl) rfl rfl nB (nl ?_)
  exact to' (n83_ (A19, A27, c27, b5, b6) ⟨hA19, hA27⟩) (su (su (su (su (su sn)))))
 intro n82_
 refine AWP.node (ι := Option Addr × Option Addr × Nat × Nat) 3 (bA 21 262143) (fun ⟨A19, A27, c27, b5⟩ => [(18, true, .agg (insCells (f.code.getD k default))), (27, true, .v (.slice A27 (fs.sls.getD k default).ws.length c27)), (5, true, pv b5), (0, true, pv bw), (1, true, zn k)]) (fun ⟨A19, A27, c27, b5⟩ => (.row A27 (fs.sls.getD k default).ws.length c27 39 1 (((fs.sls.getD k default).ws).map zw) :: z58 b5 :: .map m (lmT (whL f.code)) :: FSt bw f m aA n fs)) (fun ⟨A19, A27, c27, b5⟩ => A19.isSome = true ∧ A27.isSome = true) ?_ ?_
 ·rintro ⟨A19, A27, c27, b5⟩ ⟨hA19, hA27⟩
  refine p1 18 ?_ 
  refine AWL.allocOp rfl rfl (B rfl) rfl zc_101 (fun b6 => ?_)
  refine pi2 (nl ?_)
  exact to' (n82_ (A19, A27, c27, b5, b6) ⟨hA19, hA27⟩) (su (su (su (su (su (su sn))))))
 intro n81_
 refine AWP.node (ι := Option Addr × Option Addr × Nat × Nat) 3 (bA 21 393215) (fun ⟨A19, A27, c27, b6⟩ => [(18, true, .agg (insCells (f.code.getD k default))), (27, true, .v (.slice A27 (fs.sls.getD k default).ws.length c27)), (6, true, pv b6), (0, true, pv bw), (1, true, zn k)]) (fun ⟨A19, A27, c27, b6⟩ => (.row A27 (fs.sls.getD k default).ws.length c27 39 1 (((fs.sls.getD k default).ws).map zw) :: z101 b6 :: .map m (lmT (whL f.code)) :: FSt bw f m aA n fs)) (fun ⟨A19, A27, c27, b6⟩ => A19.isSome = true ∧ A27.isSome = true) ?_ ?_
 ·rintro ⟨A19, A27, c27, b6⟩ ⟨hA19, hA27⟩
  refine p1 17 ?_ 
  refine AWL.allocOp rfl rfl (B rfl) rfl zc_58 (fun b5 => ?_)
  refine pi1 (nl ?_)
  exact to' (n82_ (A19, A27, c27, b5, b6) ⟨hA19, hA27⟩) (su (su (su (su (su (su sn))))))
 intro n80_
 refine AWP.node (ι := Option Addr × Nat × Nat) 3 (bA 21 458751) (fun ⟨A19, b5, b6⟩ => [(18, true, .agg (insCells (f.code.getD k default))), (19, true, .v (.slice A19 0 0)), (26, true, swCell (fs.sls.getD k default)), (5, true, pv b5), (6, true, pv b6), (0, true, pv bw), (1, true, zn k)]) (fun ⟨A19, b5, b6⟩ => (.row A19 0 0 39 1 [] :: z58 b5 :: z101 b6 :: .map m (lmT (whL f.code)) :: FSt bw f m aA n fs)) (fun ⟨A19, b5, b6⟩ => A19.isSome = true) ?_ ?_
 ·rintro ⟨A19, b5, b6⟩ hA19
  refine p1 16 ?_ 
  refine AWL.appendRowS (i := 0) rfl rfl (B rfl) rfl el_101 (B rfl) rfl (E rfl rfl) (SrcT.row so_101 (i := k + 7) (sw_row hkl) (E rfl rfl)) (by unfold maxLen; omega) (by omega) hA19 (fun A27 c27 hA27 => ?_)
  rw [Nat.zero_add]
  refine nl ?_
  exact to' (n82_ (A19, A27, c27, b5, b6) ⟨hA19, hA27⟩) (su (su (su (su (su (su sn))))))
 intro n78_
 refine AWP.node (ι := Option Addr × Option Addr × Nat × Nat × Nat) 3 (bA 21 524159) (fun ⟨A19, A27, c27, b5, b6⟩ => [(17, true, .rp (f.code.flatMap insCells) (k * 11)), (27, true, .v (.slice A27 (fs.sls.getD k default).ws.length c27)), (5, true, pv b5), (6, true, pv b6), (0, true, pv bw), (1, true, zn k)]) (fun ⟨A19, A27, c27, b5, b6⟩ => (.row A27 (fs.sls.getD k default).ws.length c27 39 1 (((fs.sls.getD k default).ws).map zw) :: z58 b5 :: z101 b6 :: .map m (lmT (whL f.code)) :: FSt bw f m aA n fs)) (fun ⟨A19, A27, c27, b5, b6⟩ => A19.isSome = true ∧ A27.isSome = true) ?_ ?_
 ·rintro ⟨A19, A27, c27, b5, b6⟩ ⟨hA19, hA27⟩
  refine p1 7 ?_ 
  refine Y1 (Yv.loadRpA rfl ag_58 eV (fun hg => ins_cells hkc)) (nl ?_)
  exact to' (n82_ (A19, A27, c27, b5, b6) ⟨hA19, hA27⟩) (su (su (su (su (su (su sn))))))
 intro n54_
 refine AWP.node (ι := Option Addr × Option Addr × Nat) 4 (bA 21 131071) (fun ⟨A19, A27, c27⟩ => [(18, true, .agg (insCells (f.code.getD k default))), (27, true, .v (.slice A27 (fs.sls.getD k default).ws.length c27)), (0, true, pv bw), (1, true, zn k)]) (fun ⟨A19, A27, c27⟩ => (.row A27 (fs.sls.getD k default).ws.length c27 39 1 (((fs.sls.getD k default).ws).map zw) :: .map m (lmT (whL f.code)) :: FSt bw f m aA n fs)) (fun ⟨A19, A27, c27⟩ => A19.isSome = true ∧ A27.isSome = true) ?_ ?_
 ·rintro ⟨A19, A27, c27⟩ ⟨hA19, hA27⟩
  refine AWP.two (i := 17) (j := 18) (by kernel_rfl) rfl rfl ?_ ?_ 
  ·refine AWL.allocOp rfl rfl (B rfl) rfl zc_58 (fun b5 => ?_)
   refine pi1 (nl ?_)
   exact to' (n81_ (A19, A27, c27, b5) ⟨hA19, hA27⟩) (su (su (su (su (su sn)))))
  refine AWL.allocOp rfl rfl (B rfl) rfl zc_101 (fun b6 => ?_)
  refine pi1 (nl ?_)
  exact to' (n80_ (A19, A27, c27, b6) ⟨hA19, hA27⟩) (su (su (su (su (su sn)))))
 intro n79_
 refine AWP.node (ι := Option Addr × Nat) 4 (bA 21 196607) (fun ⟨A19, b5⟩ => [(18, true, .agg (insCells (f.code.getD k default))), (19, true, .v (.slice A19 0 0)), (26, true, swCell (fs.sls.getD k default)), (5, true, pv b5), (0, true, pv bw), (1, true, zn k)]) (fun ⟨A19, b5⟩ => (.row A19 0 0 39 1 [] :: z58 b5 :: .map m (lmT (whL f.code)) :: FSt bw f m aA n fs)) (fun ⟨A19, b5⟩ => A19.isSome = true) ?_ ?_
 ·rintro ⟨A19, b5⟩ hA19
  refine AWP.two (i := 16) (j := 18) (by kernel_rfl) rfl rfl ?_ ?_ 
  ·refine AWL.appendRowS (i := 0) rfl rfl (B rfl) rfl el_101 (B rfl) rfl (E rfl rfl) (SrcT.row so_101 (i := k + 6) (sw_row hkl) (E rfl rfl)) (by unfold maxLen; omega) (by omega) hA19 (fun A27 c27 hA27 => ?_)
   rw [Nat.zero_add]
   refine nl ?_
   exact to' (n81_ (A19, A27, c27, b5) ⟨hA19, hA27⟩) (su (su (su (su (su sn)))))
  refine AWL.allocOp rfl rfl (B rfl) rfl zc_101 (fun b6 => ?_)
  refine pi2 (nl ?_)
  exact to' (n78_ (A19, b5, b6) hA19) (su (su (su (su (su (su (su sn)))))))
 intro n77_
 refine AWP.node (ι := Option Addr × Nat) 4 (bA 21 327679) (fun ⟨A19, b6⟩ => [(18, true, .agg (insCells (f.code.getD k default))), (19, true, .v (.slice A19 0 0)), (26, true, swCell (fs.sls.getD k default)), (6, true, pv b6), (0, true, pv bw), (1, true, zn k)]) (fun ⟨A19, b6⟩ => (.row A19 0 0 39 1 [] :: z101 b6 :: .map m (lmT (whL f.code)) :: FSt bw f m aA n fs)) (fun ⟨A19, b6⟩ => A19.isSome = true) ?_ ?_
 ·rintro ⟨A19, b6⟩ hA19
  refine AWP.two (i := 16) (j := 17) (by kernel_rfl) rfl rfl ?_ ?_ 
  ·refine AWL.appendRowS (i := 0) rfl rfl (B rfl) rfl el_101 (B rfl) rfl (E rfl rfl) (SrcT.row so_101 (i := k + 6) (sw_row hkl) (E rfl rfl)) (by unfold maxLen; omega) (by omega) hA19 (fun A27 c27 hA27 => ?_)
   rw [Nat.zero_add]
   refine nl ?_
   exact to' (n80_ (A19, A27, c27, b6) ⟨hA19, hA27⟩) (su (su (su (su (su sn)))))
  refine AWL.allocOp rfl rfl (B rfl) rfl zc_58 (fun b5 => ?_)
  refine pi1 (nl ?_)
  exact to' (n78_ (A19, b5, b6) hA19) (su (su (su (su (su (su (su sn)))))))
 intro n76_
 refine AWP.node (ι := Option Addr × Nat × Nat) 4 (bA 21 425983) (fun ⟨A19, b5, b6⟩ => [(18, true, .agg (insCells (f.code.getD k default))), (19, true, .v (.slice A19 0 0)), (25, true, .ep (.slice aA n n) (k * 1)), (5, true, pv b5), (6, true, pv b6), (0, true, pv bw), (1, true, zn k)]) (fun ⟨A19, b5, b6⟩ => (.row A19 0 0 39 1 [] :: z58 b5 :: z101 b6 :: .map m (lmT (whL f.code)) :: FSt bw f m aA n fs)) (fun ⟨A19, b5, b6⟩ => A19.isSome = true) ?_ ?_
 ·rintro ⟨A19, b5, b6⟩ hA19
  refine p1 15 ?_ 
  refine Y1 (Yv.loadEp rfl ag_101 (i := 5) rfl eV (fun hg => sw_cell hkl)) (nl ?_)
  exact to' (n78_ (A19, b5, b6) hA19) (su (su (su (su (su (su (su sn)))))))
 intro n74_
 refine AWP.node (ι := Nat × Nat) 4 (bA 21 458495) (fun ⟨b5, b6⟩ => [(18, true, .agg (insCells (f.code.getD k default))), (26, true, swCell (fs.sls.getD k default)), (5, true, pv b5), (6, true, pv b6), (0, true, pv bw), (1, true, zn k)]) (fun ⟨b5, b6⟩ => (z58 b5 :: z101 b6 :: .map m (lmT (whL f.code)) :: FSt bw f m aA n fs)) (fun ⟨b5, b6⟩ => True) ?_ ?_
 ·rintro ⟨b5, b6⟩ _
  refine p1 8 ?_ 
  refine AWL.buildSliceRowS rfl rfl (B rfl) rfl el_101 (B rfl) rfl evs0 nB rfl rfl (fun A19 hA19 => ?_)
  refine pi0 (nl ?_)
  exact to' (n78_ (A19, b5, b6) hA19) (su (su (su (su (su (su (su sn)))))))
 intro n66_
 refine AWP.node (ι := Option Addr × Option Addr × Nat × Nat) 4 (bA 21 262015) (fun ⟨A19, A27, c27, b5⟩ => [(17, true, .rp (f.code.flatMap insCells) (k * 11)), (27, true, .v (.slice A27 (fs.sls.getD k default).ws.length c27)), (5, true, pv b5), (0, true, pv bw), (1, true, zn k)]) (fun ⟨A19, A27, c27, b5⟩ => (.row A27 (fs.sls.getD k default).ws.length c27 39 1 (((fs.sls.getD k default).ws).map zw) :: z58 b5 :: .map m (lmT (whL f.code)) :: FSt bw f m aA n fs)) (fun ⟨A19, A27, c27, b5⟩ => A19.isSome = true ∧ A27.isSome = true) ?_ ?_
 ·rintro ⟨A19, A27, c27, b5⟩ ⟨hA19, hA27⟩
  refine AWP.two (i := 7) (j := 18) (by kernel_rfl) rfl rfl ?_ ?_ 
  ·refine Y1 (Yv.loadRpA rfl ag_58 eV (fun hg => ins_cells hkc)) (nl ?_)
   exact to' (n81_ (A19, A27, c27, b5) ⟨hA19, hA27⟩) (su (su (su (su (su sn)))))
  refine AWL.allocOp rfl rfl (B rfl) rfl zc_101 (fun b6 => ?_)
  refine pi2 (nl ?_)
  exact to' (n54_ (A19, A27, c27, b5, b6) ⟨hA19, hA27⟩) (su (su (su (su (su (su sn))))))
 intro n53_
 refine AWP.node (ι := Option Addr × Option Addr × Nat × Nat) 4 (bA 21 393087) (fun ⟨A19, A27, c27, b6⟩ => [(17, true, .rp (f.code.flatMap insCells) (k * 11)), (27, true, .v (.slice A27 (fs.sls.getD k default).ws.length c27)), (6, true, pv b6), (0, true, pv bw), (1, true, zn k)]) (fun ⟨A19, A27, c27, b6⟩ => (.row A27 (fs.sls.getD k default).ws.length c27 39 1 (((fs.sls.getD k default).ws).map zw) :: z101 b6 :: .map m (lmT (whL f.code)) :: FSt bw f m aA n fs)) (fun ⟨A19, A27, c27, b6⟩ => A19.isSome = true ∧ A27.isSome = true) ?_ ?_
 ·rintro ⟨A19, A27, c27, b6⟩ ⟨hA19, hA27⟩
  refine AWP.two (i := 7) (j := 17) (by kernel_rfl) rfl rfl ?_ ?_ 
  ·refine Y1 (Yv.loadRpA rfl ag_58 eV (fun hg => ins_cells hkc)) (nl ?_)
   exact to' (n80_ (A19, A27, c27, b6) ⟨hA19, hA27⟩) (su (su (su (su (su sn)))))
  refine AWL.allocOp rfl rfl (B rfl) rfl zc_58 (fun b5 => ?_)
  refine pi1 (nl ?_)
  exact to' (n54_ (A19, A27, c27, b5, b6) ⟨hA19, hA27⟩) (su (su (su (su (su (su sn))))))
 intro n52_
 refine AWP.node (ι := Option Addr × Nat × Nat) 4 (bA 21 458623) (fun ⟨A19, b5, b6⟩ => [(17, true, .rp (f.code.flatMap insCells) (k * 11)), (19, true, .v (.slice A19 0 0)), (26, true, swCell (fs.sls.getD k default)), (5, true, pv b5), (6, true, pv b6), (0, true, pv bw), (1, true, zn k)]) (fun ⟨A19, b5, b6⟩ => (.row A19 0 0 39 1 [] :: z58 b5 :: z101 b6 :: .map m (lmT (whL f.code)) :: FSt bw f m aA n fs)) (fun ⟨A19, b5, b6⟩ => A19.isSome = true) ?_ ?_
 ·rintro ⟨A19, b5, b6⟩ hA19
  refine AWP.two (i := 7) (j := 16) (by kernel_rfl) rfl rfl ?_ ?_ 
  ·refine Y1 (Yv.loadRpA rfl ag_58 eV (fun hg => ins_cells hkc)) (nl ?_)
   exact to' (n78_ (A19, b5, b6) hA19) (su (su (su (su (su (su (su sn)))))))
  refine AWL.appendRowS (i := 0) rfl rfl (B rfl) rfl el_101 (B rfl) rfl (E rfl rfl) (SrcT.row so_101 (i := k + 7) (sw_row hkl) (E rfl rfl)) (by unfold maxLen; omega) (by omega) hA19 (fun A27 c27 hA27 => ?_)
  rw [Nat.zero_add]
  refine nl ?_
  exact to' (n54_ (A19, A27, c27, b5, b6) ⟨hA19, hA27⟩) (su (su (su (su (su (su sn))))))
 intro n50_
 refine AWP.node (ι := Option Addr) 5 (bA 21 65535) (fun A19 => [(18, true, .agg (insCells (f.code.getD k default))), (19, true, .v (.slice A19 0 0)), (26, true, swCell (fs.sls.getD k default)), (0, true, pv bw), (1, true, zn k)]) (fun A19 => (.row A19 0 0 39 1 [] :: .map m (lmT (whL f.code)) :: FSt bw f m aA n fs)) (fun A19 => A19.isSome = true) ?_ ?_
 ·rintro A19 hA19
  refine AWP.three (i := 16) (j := 17) (k := 18) (by kernel_rfl) rfl rfl rfl ?_ ?_ ?_ 
  ·refine AWL.appendRowS (i := 0) rfl rfl (B rfl) rfl el_101 (B rfl) rfl (E rfl rfl) (SrcT.row so_101 (i := k + 5) (sw_row hkl) (E rfl rfl)) (by unfold maxLen; omega) (by omega) hA19 (fun A27 c27 hA27 => ?_)
   rw [Nat.zero_add]
   refine nl ?_
   exact to' (n79_ (A19, A27, c27) ⟨hA19, hA27⟩) (su (su (su (su sn))))
  ·refine AWL.allocOp rfl rfl (B rfl) rfl zc_58 (fun b5 => ?_)
   refine pi1 (nl ?_)
   exact to' (n77_ (A19, b5) hA19) (su (su (su (su (su (su sn))))))
  refine AWL.allocOp rfl rfl (B rfl) rfl zc_101 (fun b6 => ?_)
  refine pi1 (nl ?_)
  exact to' (n76_ (A19, b6) hA19) (su (su (su (su (su (su sn))))))
 intro n75_
 refine AWP.node (ι := Option Addr × Nat) 5 (bA 21 163839) (fun ⟨A19, b5⟩ => [(18, true, .agg (insCells (f.code.getD k default))), (19, true, .v (.slice A19 0 0)), (25, true, .ep (.slice aA n n) (k * 1)), (5, true, pv b5), (0, true, pv bw), (1, true, zn k)]) (fun ⟨A19, b5⟩ => (.row A19 0 0 39 1 [] :: z58 b5 :: .map m (lmT (whL f.code)) :: FSt bw f m aA n fs)) (fun ⟨A19, b5⟩ => A19.isSome = true) ?_ ?_
 ·rintro ⟨A19, b5⟩ hA19
  refine AWP.two (i := 15) (j := 18) (by kernel_rfl) rfl rfl ?_ ?_ 
  ·refine Y1 (Yv.loadEp rfl ag_101 (i := 4) rfl eV (fun hg => sw_cell hkl)) (nl ?_)
   exact to' (n77_ (A19, b5) hA19) (su (su (su (su (su (su sn))))))
  refine AWL.allocOp rfl rfl (B rfl) rfl zc_101 (fun b6 => ?_)
  refine pi2 (nl ?_)
  exact to' (n74_ (A19, b5, b6) hA19) (su (su (su (su (su (su (su sn)))))))
 intro n73_
 refine AWP.node (ι := Option Addr × Nat) 5 (bA 21 294911) (fun ⟨A19, b6⟩ => [(18, true, .agg (insCells (f.code.getD k default))), (19, true, .v (.slice A19 0 0)), (25, true, .ep (.slice aA n n) (k * 1)), (6, true, pv b6), (0, true, pv bw), (1, true, zn k)]) (fun ⟨A19, b6⟩ => (.row A19 0 0 39 1 [] :: z101 b6 :: .map m (lmT (whL f.code)) :: FSt bw f m aA n fs)) (fun ⟨A19, b6⟩ => A19.isSome = true) ?_ ?_
 ·rintro ⟨A19, b6⟩ hA19
  refine AWP.two (i := 15) (j := 17) (by kernel_rfl) rfl rfl ?_ ?_ 
  ·refine Y1 (Yv.loadEp rfl ag_101 (i := 4) rfl eV (fun hg => sw_cell hkl)) (nl ?_)
   exact to' (n76_ (A19, b6) hA19) (su (su (su (su (su (su sn))))))
  refine AWL.allocOp rfl rfl (B rfl) rfl zc_58 (fun b5 => ?_)
  refine pi1 (nl ?_)
  exact to' (n74_ (A19, b5, b6) hA19) (su (su (su (su (su (su (su sn)))))))
 intro n72_
 refine AWP.node (ι := Nat) 5 (bA 21 196351) (fun b5 => [(18, true, .agg (insCells (f.code.getD k default))), (26, true, swCell (fs.sls.getD k default)), (5, true, pv b5), (0, true, pv bw), (1, true, zn k)]) (fun b5 => (z58 b5 :: .map m (lmT (whL f.code)) :: FSt bw f m aA n fs)) (fun b5 => True) ?_ ?_
 ·rintro b5 _
  refine AWP.two (i := 8) (j := 18) (by kernel_rfl) rfl rfl ?_ ?_ 
  ·refine AWL.buildSliceRowS rfl rfl (B rfl) rfl el_101 (B rfl) rfl evs0 nB rfl rfl (fun A19 hA19 => ?_)
   refine pi0 (nl ?_)
   exact to' (n77_ (A19, b5) hA19) (su (su (su (su (su (su sn))))))
  refine AWL.allocOp rfl rfl (B rfl) rfl zc_101 (fun b6 => ?_)
  refine pi1 (nl ?_)
  exact to' (n66_ (b5, b6) trivial) (su (su (su (su (su (su sn))))))
 intro n65_
 refine AWP.node (ι := Nat) 5 (bA 21 327423) (fun b6 => [(18, true, .agg (insCells (f.code.getD k default))), (26, true, swCell (fs.sls.getD k default)), (6, true, pv b6), (0, true, pv bw), (1, true, zn k)]) (fun b6 => (z101 b6 :: .map m (lmT (whL f.code)) :: FSt bw f m aA n fs)) (fun b6 => True) ?_ ?_
 ·rintro b6 _
  refine AWP.two (i := 8) (j := 17) (by kernel_rfl) rfl rfl ?_ ?_ 
  ·refine AWL.buildSliceRowS rfl rfl (B rfl) rfl el_101 (B rfl) rfl evs0 nB rfl rfl (fun A19 hA19 => ?_)
   refine pi0 (nl ?_)
   exact to' (n76_ (A19, b6) hA19) (su (su (su (su (su (su sn))))))
  refine AWL.allocOp rfl rfl (B rfl) rfl zc_58 (fun b5 => ?_)
  refine pi0 (nl ?_)
  exact to' (n66_ (b5, b6) trivial) (su (su (su (su (su (su sn))))))
 intro n64_
 refine AWP.node (ι := Nat × Nat) 5 (bA 21 425727) (fun ⟨b5, b6⟩ => [(18, true, .agg (insCells (f.code.getD k default))), (25, true, .ep (.slice aA n n) (k * 1)), (5, true, pv b5), (6, true, pv b6), (0, true, pv bw), (1, true, zn k)]) (fun ⟨b5, b6⟩ => (z58 b5 :: z101 b6 :: .map m (lmT (whL f.code)) :: FSt bw f m aA n fs)) (fun ⟨b5, b6⟩ => True) ?_ ?_
 ·rintro ⟨b5, b6⟩ _
  refine AWP.two (i := 8) (j := 15) (by kernel_rfl) rfl rfl ?_ ?_ 
  ·refine AWL.buildSliceRowS rfl rfl (B rfl) rfl el_101 (B rfl) rfl evs0 nB rfl rfl (fun A19 hA19 => ?_)
   refine pi0 (nl ?_)
   exact to' (n74_ (A19, b5, b6) hA19) (su (su (su (su (su (su (su sn)))))))
  refine Y1 (Yv.loadEp rfl ag_101 (i := 4) rfl eV (fun hg => sw_cell hkl)) (nl ?_)
  exact to' (n66_ (b5, b6) trivial) (su (su (su (su (su (su sn))))))
 intro n62_
 refine AWP.node (ι := Option Addr × Option Addr × Nat) 5 (bA 21 130943) (fun ⟨A19, A27, c27⟩ => [(17, true, .rp (f.code.flatMap insCells) (k * 11)), (27, true, .v (.slice A27 (fs.sls.getD k default).ws.length c27)), (0, true, pv bw), (1, true, zn k)]) (fun ⟨A19, A27, c27⟩ => (.row A27 (fs.sls.getD k default).ws.length c27 39 1 (((fs.sls.getD k default).ws).map zw) :: .map m (lmT (whL f.code)) :: FSt bw f m aA n fs)) (fun ⟨A19, A27, c27⟩ => A19.isSome = true ∧ A27.isSome = true) ?_ ?_
 ·rintro ⟨A19, A27, c27⟩ ⟨hA19, hA27⟩
  refine AWP.three (i := 7) (j := 17) (k := 18) (by kernel_rfl) rfl rfl rfl ?_ ?_ ?_ 
  ·refine Y1 (Yv.loadRpA rfl ag_58 eV (fun hg => ins_cells hkc)) (nl ?_)
   exact to' (n79_ (A19, A27, c27) ⟨hA19, hA27⟩) (su (su (su (su sn))))
  ·refine AWL.allocOp rfl rfl (B rfl) rfl zc_58 (fun b5 => ?_)
   refine pi1 (nl ?_)
   exact to' (n53_ (A19, A27, c27, b5) ⟨hA19, hA27⟩) (su (su (su (su (su sn)))))
  refine AWL.allocOp rfl rfl (B rfl) rfl zc_101 (fun b6 => ?_)
  refine pi1 (nl ?_)
  exact to' (n52_ (A19, A27, c27, b6) ⟨hA19, hA27⟩) (su (su (su (su (su sn)))))
 intro n51_
 refine AWP.node (ι := Option Addr × Nat) 5 (bA 21 196479) (fun ⟨A19, b5⟩ => [(17, true, .rp (f.code.flatMap insCells) (k * 11)), (19, true, .v (.slice A19 0 0)), (26, true, swCell (fs.sls.getD k default)), (5, true, pv b5), (0, true, pv bw), (1, true, zn k)]) (fun ⟨A19, b5⟩ => (.row A19 0 0 39 1 [] :: z58 b5 :: .map m (lmT (whL f.code)) :: FSt bw f m aA n fs)) (fun ⟨A19, b5⟩ => A19.isSome = true) ?_ ?_
 ·rintro ⟨A19, b5⟩ hA19
  refine AWP.three (i := 7) (j := 16) (k := 18) (by kernel_rfl) rfl rfl rfl ?_ ?_ ?_ 
  ·refine Y1 (Yv.loadRpA rfl ag_58 eV (fun hg => ins_cells hkc)) (nl ?_)
   exact to' (n77_ (A19, b5) hA19) (su (su (su (su (su (su sn))))))
  ·refine AWL.appendRowS (i := 0) rfl rfl (B rfl) rfl el_101 (B rfl) rfl (E rfl rfl) (SrcT.row so_101 (i := k + 6) (sw_row hkl) (E rfl rfl)) (by unfold maxLen; omega) (by omega) hA19 (fun A27 c27 hA27 => ?_)
   rw [Nat.zero_add]
   refine nl ?_
   exact to' (n53_ (A19, A27, c27, b5) ⟨hA19, hA27⟩) (su (su (su (su (su sn)))))
  refine AWL.allocOp rfl rfl (B rfl) rfl zc_101 (fun b6 => ?_)
  refine pi2 (nl ?_)
  exact to' (n50_ (A19, b5, b6) hA19) (su (su (su (su (su (su (su sn)))))))
 intro n49_
 refine AWP.node (ι := Option Addr × Nat) 5 (bA 21 327551) (fun ⟨A19, b6⟩ => [(17, true, .rp (f.code.flatMap insCells) (k * 11)), (19, true, .v (.slice A19 0 0)), (26, true, swCell (fs.sls.getD k default)), (6, true, pv b6), (0, true, pv bw), (1, true, zn k)]) (fun ⟨A19, b6⟩ => (.row A19 0 0 39 1 [] :: z101 b6 :: .map m (lmT (whL f.code)) :: FSt bw f m aA n fs)) (fun ⟨A19, b6⟩ => A19.isSome = true) ?_ ?_
 ·rintro ⟨A19, b6⟩ hA19
  refine AWP.three (i := 7) (j := 16) (k := 17) (by kernel_rfl) rfl rfl rfl ?_ ?_ ?_ 
  ·refine Y1 (Yv.loadRpA rfl ag_58 eV (fun hg => ins_cells hkc)) (nl ?_)
   exact to' (n76_ (A19, b6) hA19) (su (su (su (su (su (su sn))))))
  ·refine AWL.appendRowS (i := 0) rfl rfl (B rfl) rfl el_101 (B rfl) rfl (E rfl rfl) (SrcT.row so_101 (i := k + 6) (sw_row hkl) (E rfl rfl)) (by unfold maxLen; omega) (by omega) hA19 (fun A27 c27 hA27 => ?_)
   rw [Nat.zero_add]
   refine nl ?_
   exact to' (n52_ (A19, A27, c27, b6) ⟨hA19, hA27⟩) (su (su (su (su (su sn)))))
  refine AWL.allocOp rfl rfl (B rfl) rfl zc_58 (fun b5 => ?_)
  refine pi1 (nl ?_)
  exact to' (n50_ (A19, b5, b6) hA19) (su (su (su (su (su (su (su sn)))))))
 intro n48_
 refine AWP.node (ι := Option Addr × Nat × Nat) 5 (bA 21 425855) (fun ⟨A19, b5, b6⟩ => [(17, true, .rp (f.code.flatMap insCells) (k * 11)), (19, true, .v (.slice A19 0 0)), (25, true, .ep (.slice aA n n) (k * 1)), (5, true, pv b5), (6, true, pv b6), (0, true, pv bw), (1, true, zn k)]) (fun ⟨A19, b5, b6⟩ => (.row A19 0 0 39 1 [] :: z58 b5 :: z101 b6 :: .map m (lmT (whL f.code)) :: FSt bw f m aA n fs)) (fun ⟨A19, b5, b6⟩ => A19.isSome = true) ?_ ?_
 ·rintro ⟨A19, b5, b6⟩ hA19
  refine AWP.two (i := 7) (j := 15) (by kernel_rfl) rfl rfl ?_ ?_ 
  ·refine Y1 (Yv.loadRpA rfl ag_58 eV (fun hg => ins_cells hkc)) (nl ?_)
   exact to' (n74_ (A19, b5, b6) hA19) (su (su (su (su (su (su (su sn)))))))
  refine Y1 (Yv.loadEp rfl ag_101 (i := 5) rfl eV (fun hg => sw_cell hkl)) (nl ?_)
  exact to' (n50_ (A19, b5, b6) hA19) (su (su (su (su (su (su (su sn)))))))
 intro n46_
 refine AWP.node (ι := Nat × Nat) 5 (bA 21 458367) (fun ⟨b5, b6⟩ => [(17, true, .rp (f.code.flatMap insCells) (k * 11)), (26, true, swCell (fs.sls.getD k default)), (5, true, pv b5), (6, true, pv b6), (0, true, pv bw), (1, true, zn k)]) (fun ⟨b5, b6⟩ => (z58 b5 :: z101 b6 :: .map m (lmT (whL f.code)) :: FSt bw f m aA n fs)) (fun ⟨b5, b6⟩ => True) ?_ ?_
 ·rintro ⟨b5, b6⟩ _
  refine AWP.two (i := 7) (j := 8) (by kernel_rfl) rfl rfl ?_ ?_ 
  ·refine Y1 (Yv.loadRpA rfl ag_58 eV (fun hg => ins_cells hkc)) (nl ?_)
   exact to' (n66_ (b5, b6) trivial) (su (su (su (su (su (su sn))))))
  refine AWL.buildSliceRowS rfl rfl (B rfl) rfl el_101 (B rfl) rfl evs0 nB rfl rfl (fun A19 hA19 => ?_)
  refine pi0 (nl ?_)
  exact to' (n50_ (A19, b5, b6) hA19) (su (su (su (su (su (su (su sn)))))))
 intro n38_
 refine AWP.node (ι := Option Addr × Option Addr × Nat × Nat × Nat) 5 (bA 21 524079) (fun ⟨A19, A27, c27, b5, b6⟩ => [(14, true, .v (.pointer (some ⟨bw, 0 + 0 + 4, none⟩))), (16, true, zn k), (27, true, .v (.slice A27 (fs.sls.getD k default).ws.length c27)), (5, true, pv b5), (6, true, pv b6), (0, true, pv bw), (1, true, zn k)]) (fun ⟨A19, A27, c27, b5, b6⟩ => (.row A27 (fs.sls.getD k default).ws.length c27 39 1 (((fs.sls.getD k default).ws).map zw) :: z58 b5 :: z101 b6 :: .map m (lmT (whL f.code)) :: FSt bw f m aA n fs)) (fun ⟨A19, A27, c27, b5, b6⟩ => A19.isSome = true ∧ A27.isSome = true) ?_ ?_
 ·rintro ⟨A19, A27, c27, b5, b6⟩ ⟨hA19, hA27⟩
  refine p1 4 ?_ 
  refine yl ag_49 4 (nl ?_)
  refine T1 (i := 6) rfl (freeIdxSl (j := k) rfl ss_49 (by decide) (E rfl rfl) (E rfl rfl) ⟨rfl, by rw [len_code]; omega⟩) ?_
  exact to' (n54_ (A19, A27, c27, b5, b6) ⟨hA19, hA27⟩) (su (su (su (su (su (su sn))))))
 intro n26_
 refine AWP.node (ι := Option Addr) 6 (bA 21 32767) (fun A19 => [(18, true, .agg (insCells (f.code.getD k default))), (19, true, .v (.slice A19 0 0)), (25, true, .ep (.slice aA n n) (k * 1)), (0, true, pv bw), (1, true, zn k)]) (fun A19 => (.row A19 0 0 39 1 [] :: .map m (lmT (whL f.code)) :: FSt bw f m aA n fs)) (fun A19 => A19.isSome = true) ?_ ?_
 ·rintro A19 hA19
  refine AWP.three (i := 15) (j := 17) (k := 18) (by kernel_rfl) rfl rfl rfl ?_ ?_ ?_ 
  ·refine Y1 (Yv.loadEp rfl ag_101 (i := 3) rfl eV (fun hg => sw_cell hkl)) (nl ?_)
   exact to' (n75_ A19 hA19) (su (su (su (su (su sn)))))
  ·refine AWL.allocOp rfl rfl (B rfl) rfl zc_58 (fun b5 => ?_)
   refine pi1 (nl ?_)
   exact to' (n73_ (A19, b5) hA19) (su (su (su (su (su (su sn))))))
  refine AWL.allocOp rfl rfl (B rfl) rfl zc_101 (fun b6 => ?_)
  refine pi1 (nl ?_)
  exact to' (n72_ (A19, b6) hA19) (su (su (su (su (su (su sn))))))
 intro n71_
 refine AWP.node (ι := Option Addr × Nat × Nat) 6 (bA 21 405503) (fun ⟨A19, b5, b6⟩ => [(18, true, .agg (insCells (f.code.getD k default))), (19, true, .v (.slice A19 0 0)), (22, true, .v (.pointer (some ⟨bw, 0 + 6, none⟩))), (24, true, zn k), (5, true, pv b5), (6, true, pv b6), (0, true, pv bw), (1, true, zn k)]) (fun ⟨A19, b5, b6⟩ => (.row A19 0 0 39 1 [] :: z58 b5 :: z101 b6 :: .map m (lmT (whL f.code)) :: FSt bw f m aA n fs)) (fun ⟨A19, b5, b6⟩ => A19.isSome = true) ?_ ?_
 ·rintro ⟨A19, b5, b6⟩ hA19
  refine p1 12 ?_ 
  refine yl ag_98 4 (nl ?_)
  refine T1 (i := 14) rfl (freeIdxRow (i := 5) rfl ss_98 rfl (E rfl rfl) (E rfl rfl) ⟨rfl, by omega⟩) ?_
  exact to' (n74_ (A19, b5, b6) hA19) (su (su (su (su (su (su (su sn)))))))
 intro n70_
 refine AWP.node (ι := Unit) 6 (bA 21 65279) (fun _ => [(18, true, .agg (insCells (f.code.getD k default))), (26, true, swCell (fs.sls.getD k default)), (0, true, pv bw), (1, true, zn k)]) (fun _ => (.map m (lmT (whL f.code)) :: FSt bw f m aA n fs)) (fun _ => True) ?_ ?_
 ·rintro _ _
  refine AWP.three (i := 8) (j := 17) (k := 18) (by kernel_rfl) rfl rfl rfl ?_ ?_ ?_ 
  ·refine AWL.buildSliceRowS rfl rfl (B rfl) rfl el_101 (B rfl) rfl evs0 nB rfl rfl (fun A19 hA19 => ?_)
   refine pi0 (nl ?_)
   exact to' (n75_ A19 hA19) (su (su (su (su (su sn)))))
  ·refine AWL.allocOp rfl rfl (B rfl) rfl zc_58 (fun b5 => ?_)
   refine pi0 (nl ?_)
   exact to' (n65_ b5 trivial) (su (su (su (su (su sn)))))
  refine AWL.allocOp rfl rfl (B rfl) rfl zc_101 (fun b6 => ?_)
  refine pi0 (nl ?_)
  exact to' (n64_ b6 trivial) (su (su (su (su (su sn)))))
 intro n63_
 refine AWP.node (ι := Nat) 6 (bA 21 163583) (fun b5 => [(18, true, .agg (insCells (f.code.getD k default))), (25, true, .ep (.slice aA n n) (k * 1)), (5, true, pv b5), (0, true, pv bw), (1, true, zn k)]) (fun b5 => (z58 b5 :: .map m (lmT (whL f.code)) :: FSt bw f m aA n fs)) (fun b5 => True) ?_ ?_
 ·rintro b5 _
  refine AWP.three (i := 8) (j := 15) (k := 18) (by kernel_rfl) rfl rfl rfl ?_ ?_ ?_ 
  ·refine AWL.buildSliceRowS rfl rfl (B rfl) rfl el_101 (B rfl) rfl evs0 nB rfl rfl (fun A19 hA19 => ?_)
   refine pi0 (nl ?_)
   exact to' (n73_ (A19, b5) hA19) (su (su (su (su (su (su sn))))))
  ·refine Y1 (Yv.loadEp rfl ag_101 (i := 3) rfl eV (fun hg => sw_cell hkl)) (nl ?_)
   exact to' (n65_ b5 trivial) (su (su (su (su (su sn)))))
  refine AWL.allocOp rfl rfl (B rfl) rfl zc_101 (fun b6 => ?_)
  refine pi1 (nl ?_)
  exact to' (n62_ (b5, b6) trivial) (su (su (su (su (su (su sn))))))
 intro n61_
 refine AWP.node (ι := Nat) 6 (bA 21 294655) (fun b6 => [(18, true, .agg (insCells (f.code.getD k default))), (25, true, .ep (.slice aA n n) (k * 1)), (6, true, pv b6), (0, true, pv bw), (1, true, zn k)]) (fun b6 => (z101 b6 :: .map m (lmT (whL f.code)) :: FSt bw f m aA n fs)) (fun b6 => True) ?_ ?_
 ·rintro b6 _
  refine AWP.three (i := 8) (j := 15) (k := 17) (by kernel_rfl) rfl rfl rfl ?_ ?_ ?_ 
  ·refine AWL.buildSliceRowS rfl rfl (B rfl) rfl el_101 (B rfl) rfl evs0 nB rfl rfl (fun A19 hA19 => ?_)
   refine pi0 (nl ?_)
   exact to' (n72_ (A19, b6) hA19) (su (su (su (su (su (su sn))))))
  ·refine Y1 (Yv.loadEp rfl ag_101 (i := 3) rfl eV (fun hg => sw_cell hkl)) (nl ?_)
   exact to' (n64_ b6 trivial) (su (su (su (su (su sn)))))
  refine AWL.allocOp rfl rfl (B rfl) rfl zc_58 (fun b5 => ?_)
  refine pi0 (nl ?_)
  exact to' (n62_ (b5, b6) trivial) (su (su (su (su (su (su sn))))))
 intro n60_
 refine AWP.node (ι := Option Addr) 6 (bA 21 65407) (fun A19 => [(17, true, .rp (f.code.flatMap insCells) (k * 11)), (19, true, .v (.slice A19 0 0)), (26, true, swCell (fs.sls.getD k default)), (0, true, pv bw), (1, true, zn k)]) (fun A19 => (.row A19 0 0 39 1 [] :: .map m (lmT (whL f.code)) :: FSt bw f m aA n fs)) (fun A19 => A19.isSome = true) ?_ ?_
 ·rintro A19 hA19
  refine AWP.four (i0 := 7) (i1 := 16) (i2 := 17) (i3 := 18) (by kernel_rfl) rfl rfl rfl rfl ?_ ?_ ?_ ?_ 
  ·refine Y1 (Yv.loadRpA rfl ag_58 eV (fun hg => ins_cells hkc)) (nl ?_)
   exact to' (n75_ A19 hA19) (su (su (su (su (su sn)))))
  ·refine AWL.appendRowS (i := 0) rfl rfl (B rfl) rfl el_101 (B rfl) rfl (E rfl rfl) (SrcT.row so_101 (i := k + 5) (sw_row hkl) (E rfl rfl)) (by unfold maxLen; omega) (by omega) hA19 (fun A27 c27 hA27 => ?_)
   rw [Nat.zero_add]
   refine nl ?_
   exact to' (n51_ (A19, A27, c27) ⟨hA19, hA27⟩) (su (su (su (su sn))))
  ·refine AWL.allocOp rfl rfl (B rfl) rfl zc_58 (fun b5 => ?_)
   refine pi1 (nl ?_)
   exact to' (n49_ (A19, b5) hA19) (su (su (su (su (su (su sn))))))
  refine AWL.allocOp rfl rfl (B rfl) rfl zc_101 (fun b6 => ?_)
  refine pi1 (nl ?_)
  exact to' (n48_ (A19, b6) hA19) (su (su (su (su (su (su sn))))))
 intro n47_
 refine AWP.node (ι := Option Addr × Nat) 6 (bA 21 163711) (fun ⟨A19, b5⟩ => [(17, true, .rp (f.code.flatMap insCells) (k * 11)), (19, true, .v (.slice A19 0 0)), (25, true, .ep (.slice aA n n) (k * 1)), (5, true, pv b5), (0, true, pv bw), (1, true, zn k)]) (fun ⟨A19, b5⟩ => (.row A19 0 0 39 1 [] :: z58 b5 :: .map m (lmT (whL f.code)) :: FSt bw f m aA n fs)) (fun ⟨A19, b5⟩ => A19.isSome = true) ?_ ?_
 ·rintro ⟨A19, b5⟩ hA19
  refine AWP.three (i := 7) (j := 15) (k := 18) (by kernel_rfl) rfl rfl rfl ?_ ?_ ?_ 
  ·refine Y1 (Yv.loadRpA rfl ag_58 eV (fun hg => ins_cells hkc)) (nl ?_)
   exact to' (n73_ (A19, b5) hA19) (su (su (su (su (su (su sn))))))
  ·refine Y1 (Yv.loadEp rfl ag_101 (i := 4) rfl eV (fun hg => sw_cell hkl)) (nl ?_)
   exact to' (n49_ (A19, b5) hA19) (su (su (su (su (su (su sn))))))
  refine AWL.allocOp rfl rfl (B rfl) rfl zc_101 (fun b6 => ?_)
  refine pi2 (nl ?_)
  exact to' (n46_ (A19, b5, b6) hA19) (su (su (su (su (su (su (su sn)))))))
 intro n45_
 refine AWP.node (ι := Option Addr × Nat) 6 (bA 21 294783) (fun ⟨A19, b6⟩ => [(17, true, .rp (f.code.flatMap insCells) (k * 11)), (19, true, .v (.slice A19 0 0)), (25, true, .ep (.slice aA n n) (k * 1)), (6, true, pv b6), (0, true, pv bw), (1, true, zn k)]) (fun ⟨A19, b6⟩ => (.row A19 0 0 39 1 [] :: z101 b6 :: .map m (lmT (whL f.code)) :: FSt bw f m aA n fs)) (fun ⟨A19, b6⟩ => A19.isSome = true) ?_ ?_
 ·rintro ⟨A19, b6⟩ hA19
  refine AWP.three (i := 7) (j := 15) (k := 17) (by kernel_rfl) rfl rfl rfl ?_ ?_ ?_ 
  ·refine Y1 (Yv.loadRpA rfl ag_58 eV (fun hg => ins_cells hkc)) (nl ?_)
   exact to' (n72_ (A19, b6) hA19) (su (su (su (su (su (su sn))))))
  ·refine Y1 (Yv.loadEp rfl ag_101 (i := 4) rfl eV (fun hg => sw_cell hkl)) (nl ?_)
   exact to' (n48_ (A19, b6) hA19) (su (su (su (su (su (su sn))))))
  refine AWL.allocOp rfl rfl (B rfl) rfl zc_58 (fun b5 => ?_)
  refine pi1 (nl ?_)
  exact to' (n46_ (A19, b5, b6) hA19) (su (su (su (su (su (su (su sn)))))))
 intro n44_
 refine AWP.node (ι := Nat) 6 (bA 21 196223) (fun b5 => [(17, true, .rp (f.code.flatMap insCells) (k * 11)), (26, true, swCell (fs.sls.getD k default)), (5, true, pv b5), (0, true, pv bw), (1, true, zn k)]) (fun b5 => (z58 b5 :: .map m (lmT (whL f.code)) :: FSt bw f m aA n fs)) (fun b5 => True) ?_ ?_
 ·rintro b5 _
  refine AWP.three (i := 7) (j := 8) (k := 18) (by kernel_rfl) rfl rfl rfl ?_ ?_ ?_ 
  ·refine Y1 (Yv.loadRpA rfl ag_58 eV (fun hg => ins_cells hkc)) (nl ?_)
   exact to' (n65_ b5 trivial) (su (su (su (su (su sn)))))
  ·refine AWL.buildSliceRowS rfl rfl (B rfl) rfl el_101 (B rfl) rfl evs0 nB rfl rfl (fun A19 hA19 => ?_)
   refine pi0 (nl ?_)
   exact to' (n49_ (A19, b5) hA19) (su (su (su (su (su (su sn))))))
  refine AWL.allocOp rfl rfl (B rfl) rfl zc_101 (fun b6 => ?_)
  refine pi1 (nl ?_)
  exact to' (n38_ (b5, b6) trivial) (su (su (su (su (su (su sn))))))
 intro n37_
 refine AWP.node (ι := Nat) 6 (bA 21 327295) (fun b6 => [(17, true, .rp (f.code.flatMap insCells) (k * 11)), (26, true, swCell (fs.sls.getD k default)), (6, true, pv b6), (0, true, pv bw), (1, true, zn k)]) (fun b6 => (z101 b6 :: .map m (lmT (whL f.code)) :: FSt bw f m aA n fs)) (fun b6 => True) ?_ ?_
 ·rintro b6 _
  refine AWP.three (i := 7) (j := 8) (k := 17) (by kernel_rfl) rfl rfl rfl ?_ ?_ ?_ 
  ·refine Y1 (Yv.loadRpA rfl ag_58 eV (fun hg => ins_cells hkc)) (nl ?_)
   exact to' (n64_ b6 trivial) (su (su (su (su (su sn)))))
  ·refine AWL.buildSliceRowS rfl rfl (B rfl) rfl el_101 (B rfl) rfl evs0 nB rfl rfl (fun A19 hA19 => ?_)
   refine pi0 (nl ?_)
   exact to' (n48_ (A19, b6) hA19) (su (su (su (su (su (su sn))))))
  refine AWL.allocOp rfl rfl (B rfl) rfl zc_58 (fun b5 => ?_)
  refine pi0 (nl ?_)
  exact to' (n38_ (b5, b6) trivial) (su (su (su (su (su (su sn))))))
 intro n36_
 refine AWP.node (ι := Nat × Nat) 6 (bA 21 425599) (fun ⟨b5, b6⟩ => [(17, true, .rp (f.code.flatMap insCells) (k * 11)), (25, true, .ep (.slice aA n n) (k * 1)), (5, true, pv b5), (6, true, pv b6), (0, true, pv bw), (1, true, zn k)]) (fun ⟨b5, b6⟩ => (z58 b5 :: z101 b6 :: .map m (lmT (whL f.code)) :: FSt bw f m aA n fs)) (fun ⟨b5, b6⟩ => True) ?_ ?_
 ·rintro ⟨b5, b6⟩ _
  refine AWP.three (i := 7) (j := 8) (k := 15) (by kernel_rfl) rfl rfl rfl ?_ ?_ ?_ 
  ·refine Y1 (Yv.loadRpA rfl ag_58 eV (fun hg => ins_cells hkc)) (nl ?_)
   exact to' (n62_ (b5, b6) trivial) (su (su (su (su (su (su sn))))))
  ·refine AWL.buildSliceRowS rfl rfl (B rfl) rfl el_101 (B rfl) rfl evs0 nB rfl rfl (fun A19 hA19 => ?_)
   refine pi0 (nl ?_)
   exact to' (n46_ (A19, b5, b6) hA19) (su (su (su (su (su (su (su sn)))))))
  refine Y1 (Yv.loadEp rfl ag_101 (i := 4) rfl eV (fun hg => sw_cell hkl)) (nl ?_)
  exact to' (n38_ (b5, b6) trivial) (su (su (su (su (su (su sn))))))
 intro n34_
 refine AWP.node (ι := Option Addr × Option Addr × Nat × Nat) 6 (bA 21 261935) (fun ⟨A19, A27, c27, b5⟩ => [(14, true, .v (.pointer (some ⟨bw, 0 + 0 + 4, none⟩))), (16, true, zn k), (27, true, .v (.slice A27 (fs.sls.getD k default).ws.length c27)), (5, true, pv b5), (0, true, pv bw), (1, true, zn k)]) (fun ⟨A19, A27, c27, b5⟩ => (.row A27 (fs.sls.getD k default).ws.length c27 39 1 (((fs.sls.getD k default).ws).map zw) :: z58 b5 :: .map m (lmT (whL f.code)) :: FSt bw f m aA n fs)) (fun ⟨A19, A27, c27, b5⟩ => A19.isSome = true ∧ A27.isSome = true) ?_ ?_
 ·rintro ⟨A19, A27, c27, b5⟩ ⟨hA19, hA27⟩
  refine AWP.two (i := 4) (j := 18) (by kernel_rfl) rfl rfl ?_ ?_ 
  ·refine yl ag_49 3 (nl ?_)
   refine T1 (i := 6) rfl (freeIdxSl (j := k) rfl ss_49 (by decide) (E rfl rfl) (E rfl rfl) ⟨rfl, by rw [len_code]; omega⟩) ?_
   exact to' (n53_ (A19, A27, c27, b5) ⟨hA19, hA27⟩) (su (su (su (su (su sn)))))
  refine AWL.allocOp rfl rfl (B rfl) rfl zc_101 (fun b6 => ?_)
  refine pi2 (nl ?_)
  exact to' (n26_ (A19, A27, c27, b5, b6) ⟨hA19, hA27⟩) (su (su (su (su (su (su (su sn)))))))
 intro n25_
 refine AWP.node (ι := Option Addr × Option Addr × Nat × Nat) 6 (bA 21 393007) (fun ⟨A19, A27, c27, b6⟩ => [(14, true, .v (.pointer (some ⟨bw, 0 + 0 + 4, none⟩))), (16, true, zn k), (27, true, .v (.slice A27 (fs.sls.getD k default).ws.length c27)), (6, true, pv b6), (0, true, pv bw), (1, true, zn k)]) (fun ⟨A19, A27, c27, b6⟩ => (.row A27 (fs.sls.getD k default).ws.length c27 39 1 (((fs.sls.getD k default).ws).map zw) :: z101 b6 :: .map m (lmT (whL f.code)) :: FSt bw f m aA n fs)) (fun ⟨A19, A27, c27, b6⟩ => A19.isSome = true ∧ A27.isSome = true) ?_ ?_
 ·rintro ⟨A19, A27, c27, b6⟩ ⟨hA19, hA27⟩
  refine AWP.two (i := 4) (j := 17) (by kernel_rfl) rfl rfl ?_ ?_ 
  ·refine yl ag_49 3 (nl ?_)
   refine T1 (i := 6) rfl (freeIdxSl (j := k) rfl ss_49 (by decide) (E rfl rfl) (E rfl rfl) ⟨rfl, by rw [len_code]; omega⟩) ?_
   exact to' (n52_ (A19, A27, c27, b6) ⟨hA19, hA27⟩) (su (su (su (su (su sn)))))
  refine AWL.allocOp rfl rfl (B rfl) rfl zc_58 (fun b5 => ?_)
  refine pi1 (nl ?_)
  exact to' (n26_ (A19, A27, c27, b5, b6) ⟨hA19, hA27⟩) (su (su (su (su (su (su (su sn)))))))
 intro n24_
 refine AWP.node (ι := Option Addr × Nat × Nat) 6 (bA 21 458543) (fun ⟨A19, b5, b6⟩ => [(14, true, .v (.pointer (some ⟨bw, 0 + 0 + 4, none⟩))), (16, true, zn k), (19, true, .v (.slice A19 0 0)), (26, true, swCell (fs.sls.getD k default)), (5, true, pv b5), (6, true, pv b6), (0, true, pv bw), (1, true, zn k)]) (fun ⟨A19, b5, b6⟩ => (.row A19 0 0 39 1 [] :: z58 b5 :: z101 b6 :: .map m (lmT (whL f.code)) :: FSt bw f m aA n fs)) (fun ⟨A19, b5, b6⟩ => A19.isSome = true) ?_ ?_
 ·rintro ⟨A19, b5, b6⟩ hA19
  refine AWP.two (i := 4) (j := 16) (by kernel_rfl) rfl rfl ?_ ?_ 
  ·refine yl ag_49 4 (nl ?_)
   refine T1 (i := 6) rfl (freeIdxSl (j := k) rfl ss_49 (by decide) (E rfl rfl) (E rfl rfl) ⟨rfl, by rw [len_code]; omega⟩) ?_
   exact to' (n50_ (A19, b5, b6) hA19) (su (su (su (su (su (su (su sn)))))))
  refine AWL.appendRowS (i := 0) rfl rfl (B rfl) rfl el_101 (B rfl) rfl (E rfl rfl) (SrcT.row so_101 (i := k + 7) (sw_row hkl) (E rfl rfl)) (by unfold maxLen; omega) (by omega) hA19 (fun A27 c27 hA27 => ?_)
  rw [Nat.zero_add]
  refine nl ?_
  exact to' (n26_ (A19, A27, c27, b5, b6) ⟨hA19, hA27⟩) (su (su (su (su (su (su (su sn)))))))
 intro n22_
 refine AWP.node (ι := Option Addr × Nat) 7 (bA 21 143359) (fun ⟨A19, b5⟩ => [(18, true, .agg (insCells (f.code.getD k default))), (19, true, .v (.slice A19 0 0)), (22, true, .v (.pointer (some ⟨bw, 0 + 6, none⟩))), (24, true, zn k), (5, true, pv b5), (0, true, pv bw), (1, true, zn k)]) (fun ⟨A19, b5⟩ => (.row A19 0 0 39 1 [] :: z58 b5 :: .map m (lmT (whL f.code)) :: FSt bw f m aA n fs)) (fun ⟨A19, b5⟩ => A19.isSome = true) ?_ ?_
 ·rintro ⟨A19, b5⟩ hA19
  refine AWP.two (i := 12) (j := 18) (by kernel_rfl) rfl rfl ?_ ?_ 
  ·refine yl ag_98 3 (nl ?_)
   refine T1 (i := 14) rfl (freeIdxRow (i := 4) rfl ss_98 rfl (E rfl rfl) (E rfl rfl) ⟨rfl, by omega⟩) ?_
   exact to' (n73_ (A19, b5) hA19) (su (su (su (su (su (su sn))))))
  refine AWL.allocOp rfl rfl (B rfl) rfl zc_101 (fun b6 => ?_)
  refine pi2 (nl ?_)
  exact to' (n70_ (A19, b5, b6) hA19) (su (su (su (su (su (su (su (su sn))))))))
 intro n69_
 refine AWP.node (ι := Option Addr × Nat) 7 (bA 21 274431) (fun ⟨A19, b6⟩ => [(18, true, .agg (insCells (f.code.getD k default))), (19, true, .v (.slice A19 0 0)), (22, true, .v (.pointer (some ⟨bw, 0 + 6, none⟩))), (24, true, zn k), (6, true, pv b6), (0, true, pv bw), (1, true, zn k)]) (fun ⟨A19, b6⟩ => (.row A19 0 0 39 1 [] :: z101 b6 :: .map m (lmT (whL f.code)) :: FSt bw f m aA n fs)) (fun ⟨A19, b6⟩ => A19.isSome = true) ?_ ?_
 ·rintro ⟨A19, b6⟩ hA19
  refine AWP.two (i := 12) (j := 17) (by kernel_rfl) rfl rfl ?_ ?_ 
  ·refine yl ag_98 3 (nl ?_)
   refine T1 (i := 14) rfl (freeIdxRow (i := 4) rfl ss_98 rfl (E rfl rfl) (E rfl rfl) ⟨rfl, by omega⟩) ?_
   exact to' (n72_ (A19, b6) hA19) (su (su (su (su (su (su sn))))))
  refine AWL.allocOp rfl rfl (B rfl) rfl zc_58 (fun b5 => ?_)
  refine pi1 (nl ?_)
  exact to' (n70_ (A19, b5, b6) hA19) (su (su (su (su (su (su (su (su sn))))))))
 intro n68_
 refine AWP.node (ι := Unit) 7 (bA 21 32511) (fun _ => [(18, true, .agg (insCells (f.code.getD k default))), (25, true, .ep (.slice aA n n) (k * 1)), (0, true, pv bw), (1, true, zn k)]) (fun _ => (.map m (lmT (whL f.code)) :: FSt bw f m aA n fs)) (fun _ => True) ?_ ?_
 ·rintro _ _
  refine AWP.four (i0 := 8) (i1 := 15) (i2 := 17) (i3 := 18) (by kernel_rfl) rfl rfl rfl rfl ?_ ?_ ?_ ?_ 
  ·refine AWL.buildSliceRowS rfl rfl (B rfl) rfl el_101 (B rfl) rfl evs0 nB rfl rfl (fun A19 hA19 => ?_)
   refine pi0 (nl ?_)
   exact to' (n71_ A19 hA19) (su (su (su (su (su sn)))))
  ·refine Y1 (Yv.loadEp rfl ag_101 (i := 2) rfl eV (fun hg => sw_cell hkl)) (nl ?_)
   exact to' (n63_ () trivial) (su (su (su (su sn))))
  ·refine AWL.allocOp rfl rfl (B rfl) rfl zc_58 (fun b5 => ?_)
   refine pi0 (nl ?_)
   exact to' (n61_ b5 trivial) (su (su (su (su (su sn)))))
  refine AWL.allocOp rfl rfl (B rfl) rfl zc_101 (fun b6 => ?_)
  refine pi0 (nl ?_)
  exact to' (n60_ b6 trivial) (su (su (su (su (su sn)))))
 intro n59_
 refine AWP.node (ι := Nat × Nat) 7 (bA 21 405247) (fun ⟨b5, b6⟩ => [(18, true, .agg (insCells (f.code.getD k default))), (22, true, .v (.pointer (some ⟨bw, 0 + 6, none⟩))), (24, true, zn k), (5, true, pv b5), (6, true, pv b6), (0, true, pv bw), (1, true, zn k)]) (fun ⟨b5, b6⟩ => (z58 b5 :: z101 b6 :: .map m (lmT (whL f.code)) :: FSt bw f m aA n fs)) (fun ⟨b5, b6⟩ => True) ?_ ?_
 ·rintro ⟨b5, b6⟩ _
  refine AWP.two (i := 8) (j := 12) (by kernel_rfl) rfl rfl ?_ ?_ 
  ·refine AWL.buildSliceRowS rfl rfl (B rfl) rfl el_101 (B rfl) rfl evs0 nB rfl rfl (fun A19 hA19 => ?_)
   refine pi0 (nl ?_)
   exact to' (n70_ (A19, b5, b6) hA19) (su (su (su (su (su (su (su (su sn))))))))
  refine yl ag_98 3 (nl ?_)
  refine T1 (i := 14) rfl (freeIdxRow (i := 4) rfl ss_98 rfl (E rfl rfl) (E rfl rfl) ⟨rfl, by omega⟩) ?_
  exact to' (n62_ (b5, b6) trivial) (su (su (su (su (su (su sn))))))
 intro n58_
 refine AWP.node (ι := Option Addr) 7 (bA 21 32639) (fun A19 => [(17, true, .rp (f.code.flatMap insCells) (k * 11)), (19, true, .v (.slice A19 0 0)), (25, true, .ep (.slice aA n n) (k * 1)), (0, true, pv bw), (1, true, zn k)]) (fun A19 => (.row A19 0 0 39 1 [] :: .map m (lmT (whL f.code)) :: FSt bw f m aA n fs)) (fun A19 => A19.isSome = true) ?_ ?_
 ·rintro A19 hA19
  refine AWP.four (i0 := 7) (i1 := 15) (i2 := 17) (i3 := 18) (by kernel_rfl) rfl rfl rfl rfl ?_ ?_ ?_ ?_ 
  ·refine Y1 (Yv.loadRpA rfl ag_58 eV (fun hg => ins_cells hkc)) (nl ?_)
   exact to' (n71_ A19 hA19) (su (su (su (su (su sn)))))
  ·refine Y1 (Yv.loadEp rfl ag_101 (i := 3) rfl eV (fun hg => sw_cell hkl)) (nl ?_)
   exact to' (n47_ A19 hA19) (su (su (su (su (su sn)))))
  ·refine AWL.allocOp rfl rfl (B rfl) rfl zc_58 (fun b5 => ?_)
   refine pi1 (nl ?_)
   exact to' (n45_ (A19, b5) hA19) (su (su (su (su (su (su sn))))))
  refine AWL.allocOp rfl rfl (B rfl) rfl zc_101 (fun b6 => ?_)
  refine pi1 (nl ?_)
  exact to' (n44_ (A19, b6) hA19) (su (su (su (su (su (su sn))))))
 intro n43_
 refine AWP.node (ι := Option Addr × Nat × Nat) 7 (bA 21 405375) (fun ⟨A19, b5, b6⟩ => [(17, true, .rp (f.code.flatMap insCells) (k * 11)), (19, true, .v (.slice A19 0 0)), (22, true, .v (.pointer (some ⟨bw, 0 + 6, none⟩))), (24, true, zn k), (5, true, pv b5), (6, true, pv b6), (0, true, pv bw), (1, true, zn k)]) (fun ⟨A19, b5, b6⟩ => (.row A19 0 0 39 1 [] :: z58 b5 :: z101 b6 :: .map m (lmT (whL f.code)) :: FSt bw f m aA n fs)) (fun ⟨A19, b5, b6⟩ => A19.isSome = true) ?_ ?_
 ·rintro ⟨A19, b5, b6⟩ hA19
  refine AWP.two (i := 7) (j := 12) (by kernel_rfl) rfl rfl ?_ ?_ 
  ·refine Y1 (Yv.loadRpA rfl ag_58 eV (fun hg => ins_cells hkc)) (nl ?_)
   exact to' (n70_ (A19, b5, b6) hA19) (su (su (su (su (su (su (su (su sn))))))))
  refine yl ag_98 4 (nl ?_)
  refine T1 (i := 14) rfl (freeIdxRow (i := 5) rfl ss_98 rfl (E rfl rfl) (E rfl rfl) ⟨rfl, by omega⟩) ?_
  exact to' (n46_ (A19, b5, b6) hA19) (su (su (su (su (su (su (su sn)))))))
 intro n42_
 refine AWP.node (ι := Unit) 7 (bA 21 65151) (fun _ => [(17, true, .rp (f.code.flatMap insCells) (k * 11)), (26, true, swCell (fs.sls.getD k default)), (0, true, pv bw), (1, true, zn k)]) (fun _ => (.map m (lmT (whL f.code)) :: FSt bw f m aA n fs)) (fun _ => True) ?_ ?_
 ·rintro _ _
  refine AWP.four (i0 := 7) (i1 := 8) (i2 := 17) (i3 := 18) (by kernel_rfl) rfl rfl rfl rfl ?_ ?_ ?_ ?_ 
  ·refine Y1 (Yv.loadRpA rfl ag_58 eV (fun hg => ins_cells hkc)) (nl ?_)
   exact to' (n63_ () trivial) (su (su (su (su sn))))
  ·refine AWL.buildSliceRowS rfl rfl (B rfl) rfl el_101 (B rfl) rfl evs0 nB rfl rfl (fun A19 hA19 => ?_)
   refine pi0 (nl ?_)
   exact to' (n47_ A19 hA19) (su (su (su (su (su sn)))))
  ·refine AWL.allocOp rfl rfl (B rfl) rfl zc_58 (fun b5 => ?_)
   refine pi0 (nl ?_)
   exact to' (n37_ b5 trivial) (su (su (su (su (su sn)))))
  refine AWL.allocOp rfl rfl (B rfl) rfl zc_101 (fun b6 => ?_)
  refine pi0 (nl ?_)
  exact to' (n36_ b6 trivial) (su (su (su (su (su sn)))))
 intro n35_
 refine AWP.node (ι := Nat) 7 (bA 21 163455) (fun b5 => [(17, true, .rp (f.code.flatMap insCells) (k * 11)), (25, true, .ep (.slice aA n n) (k * 1)), (5, true, pv b5), (0, true, pv bw), (1, true, zn k)]) (fun b5 => (z58 b5 :: .map m (lmT (whL f.code)) :: FSt bw f m aA n fs)) (fun b5 => True) ?_ ?_
 ·rintro b5 _
  refine AWP.four (i0 := 7) (i1 := 8) (i2 := 15) (i3 := 18) (by kernel_rfl) rfl rfl rfl rfl ?_ ?_ ?_ ?_ 
  ·refine Y1 (Yv.loadRpA rfl ag_58 eV (fun hg => ins_cells hkc)) (nl ?_)
   exact to' (n61_ b5 trivial) (su (su (su (su (su sn)))))
  ·refine AWL.buildSliceRowS rfl rfl (B rfl) rfl el_101 (B rfl) rfl evs0 nB rfl rfl (fun A19 hA19 => ?_)
   refine pi0 (nl ?_)
   exact to' (n45_ (A19, b5) hA19) (su (su (su (su (su (su sn))))))
  ·refine Y1 (Yv.loadEp rfl ag_101 (i := 3) rfl eV (fun hg => sw_cell hkl)) (nl ?_)
   exact to' (n37_ b5 trivial) (su (su (su (su (su sn)))))
  refine AWL.allocOp rfl rfl (B rfl) rfl zc_101 (fun b6 => ?_)
  refine pi1 (nl ?_)
  exact to' (n34_ (b5, b6) trivial) (su (su (su (su (su (su sn))))))
 intro n33_
 refine AWP.node (ι := Nat) 7 (bA 21 294527) (fun b6 => [(17, true, .rp (f.code.flatMap insCells) (k * 11)), (25, true, .ep (.slice aA n n) (k * 1)), (6, true, pv b6), (0, true, pv bw), (1, true, zn k)]) (fun b6 => (z101 b6 :: .map m (lmT (whL f.code)) :: FSt bw f m aA n fs)) (fun b6 => True) ?_ ?_
 ·rintro b6 _
  refine AWP.four (i0 := 7) (i1 := 8) (i2 := 15) (i3 := 17) (by kernel_rfl) rfl rfl rfl rfl ?_ ?_ ?_ ?_ 
  ·refine Y1 (Yv.loadRpA rfl ag_58 eV (fun hg => ins_cells hkc)) (nl ?_)
   exact to' (n60_ b6 trivial) (su (su (su (su (su sn)))))
  ·refine AWL.buildSliceRowS rfl rfl (B rfl) rfl el_101 (B rfl) rfl evs0 nB rfl rfl (fun A19 hA19 => ?_)
   refine pi0 (nl ?_)
   exact to' (n44_ (A19, b6) hA19) (su (su (su (su (su (su sn))))))
  ·refine Y1 (Yv.loadEp rfl ag_101 (i := 3) rfl eV (fun hg => sw_cell hkl)) (nl ?_)
   exact to' (n36_ b6 trivial) (su (su (su (su (su sn)))))
  refine AWL.allocOp rfl rfl (B rfl) rfl zc_58 (fun b5 => ?_)
  refine pi0 (nl ?_)
  exact to' (n34_ (b5, b6) trivial) (su (su (su (su (su (su sn))))))
 intro n32_
 refine AWP.node (ι := Option Addr × Option Addr × Nat) 7 (bA 21 130863) (fun ⟨A19, A27, c27⟩ => [(14, true, .v (.pointer (some ⟨bw, 0 + 0 + 4, none⟩))), (16, true, zn k), (27, true, .v (.slice A27 (fs.sls.getD k default).ws.length c27)), (0, true, pv bw), (1, true, zn k)]) (fun ⟨A19, A27, c27⟩ => (.row A27 (fs.sls.getD k default).ws.length c27 39 1 (((fs.sls.getD k default).ws).map zw) :: .map m (lmT (whL f.code)) :: FSt bw f m aA n fs)) (fun ⟨A19, A27, c27⟩ => A19.isSome = true ∧ A27.isSome = true) ?_ ?_
 ·rintro ⟨A19, A27, c27⟩ ⟨hA19, hA27⟩
  refine AWP.three (i := 4) (j := 17) (k := 18) (by kernel_rfl) rfl rfl rfl ?_ ?_ ?_ 
  ·refine yl ag_49 2 (nl ?_)
   refine T1 (i := 6) rfl (freeIdxSl (j := k) rfl ss_49 (by decide) (E rfl rfl) (E rfl rfl) ⟨rfl, by rw [len_code]; omega⟩) ?_
   exact to' (n51_ (A19, A27, c27) ⟨hA19, hA27⟩) (su (su (su (su sn))))
  ·refine AWL.allocOp rfl rfl (B rfl) rfl zc_58 (fun b5 => ?_)
   refine pi1 (nl ?_)
   exact to' (n25_ (A19, A27, c27, b5) ⟨hA19, hA27⟩) (su (su (su (su (su (su sn))))))
  refine AWL.allocOp rfl rfl (B rfl) rfl zc_101 (fun b6 => ?_)
  refine pi1 (nl ?_)
  exact to' (n24_ (A19, A27, c27, b6) ⟨hA19, hA27⟩) (su (su (su (su (su (su sn))))))
 intro n23_
 refine AWP.node (ι := Option Addr × Nat) 7 (bA 21 196399) (fun ⟨A19, b5⟩ => [(14, true, .v (.pointer (some ⟨bw, 0 + 0 + 4, none⟩))), (16, true, zn k), (19, true, .v (.slice A19 0 0)), (26, true, swCell (fs.sls.getD k default)), (5, true, pv b5), (0, true, pv bw), (1, true, zn k)]) (fun ⟨A19, b5⟩ => (.row A19 0 0 39 1 [] :: z58 b5 :: .map m (lmT (whL f.code)) :: FSt bw f m aA n fs)) (fun ⟨A19, b5⟩ => A19.isSome = true) ?_ ?_
 ·rintro ⟨A19, b5⟩ hA19
  refine AWP.three (i := 4) (j := 16) (k := 18) (by kernel_rfl) rfl rfl rfl ?_ ?_ ?_ 
  ·refine yl ag_49 3 (nl ?_)
   refine T1 (i := 6) rfl (freeIdxSl (j := k) rfl ss_49 (by decide) (E rfl rfl) (E rfl rfl) ⟨rfl, by rw [len_code]; omega⟩) ?_
   exact to' (n49_ (A19, b5) hA19) (su (su (su (su (su (su sn))))))
  ·refine AWL.appendRowS (i := 0) rfl rfl (B rfl) rfl el_101 (B rfl) rfl (E rfl rfl) (SrcT.row so_101 (i := k + 6) (sw_row hkl) (E rfl rfl)) (by unfold maxLen; omega) (by omega) hA19 (fun A27 c27 hA27 => ?_)
   rw [Nat.zero_add]
   refine nl ?_
   exact to' (n25_ (A19, A27, c27, b5) ⟨hA19, hA27⟩) (su (su (su (su (su (su sn))))))
  refine AWL.allocOp rfl rfl (B rfl) rfl zc_101 (fun b6 => ?_)
  refine pi2 (nl ?_)
  exact to' (n22_ (A19, b5, b6) hA19) (su (su (su (su (su (su (su (su sn))))))))
 intro n21_
 refine AWP.node (ι := Option Addr × Nat) 7 (bA 21 327471) (fun ⟨A19, b6⟩ => [(14, true, .v (.pointer (some ⟨bw, 0 + 0 + 4, none⟩))), (16, true, zn k), (19, true, .v (.slice A19 0 0)), (26, true, swCell (fs.sls.getD k default)), (6, true, pv b6), (0, true, pv bw), (1, true, zn k)]) (fun ⟨A19, b6⟩ => (.row A19 0 0 39 1 [] :: z101 b6 :: .map m (lmT (whL f.code)) :: FSt bw f m aA n fs)) (fun ⟨A19, b6⟩ => A19.isSome = true) ?_ ?_
 ·rintro ⟨A19, b6⟩ hA19
  refine AWP.three (i := 4) (j := 16) (k := 17) (by kernel_rfl) rfl rfl rfl ?_ ?_ ?_ 
  ·refine yl ag_49 3 (nl ?_)
   refine T1 (i := 6) rfl (freeIdxSl (j := k) rfl ss_49 (by decide) (E rfl rfl) (E rfl rfl) ⟨rfl, by rw [len_code]; omega⟩) ?_
   exact to' (n48_ (A19, b6) hA19) (su (su (su (su (su (su sn))))))
  ·refine AWL.appendRowS (i := 0) rfl rfl (B rfl) rfl el_101 (B rfl) rfl (E rfl rfl) (SrcT.row so_101 (i := k + 6) (sw_row hkl) (E rfl rfl)) (by unfold maxLen; omega) (by omega) hA19 (fun A27 c27 hA27 => ?_)
   rw [Nat.zero_add]
   refine nl ?_
   exact to' (n24_ (A19, A27, c27, b6) ⟨hA19, hA27⟩) (su (su (su (su (su (su sn))))))
  refine AWL.allocOp rfl rfl (B rfl) rfl zc_58 (fun b5 => ?_)
  refine pi1 (nl ?_)
  exact to' (n22_ (A19, b5, b6) hA19) (su (su (su (su (su (su (su (su sn))))))))
 intro n20_
 refine AWP.node (ι := Option Addr × Nat × Nat) 7 (bA 21 425775) (fun ⟨A19, b5, b6⟩ => [(14, true, .v (.pointer (some ⟨bw, 0 + 0 + 4, none⟩))), (16, true, zn k), (19, true, .v (.slice A19 0 0)), (25, true, .ep (.slice aA n n) (k * 1)), (5, true, pv b5), (6, true, pv b6), (0, true, pv bw), (1, true, zn k)]) (fun ⟨A19, b5, b6⟩ => (.row A19 0 0 39 1 [] :: z58 b5 :: z101 b6 :: .map m (lmT (whL f.code)) :: FSt bw f m aA n fs)) (fun ⟨A19, b5, b6⟩ => A19.isSome = true) ?_ ?_
 ·rintro ⟨A19, b5, b6⟩ hA19
  refine AWP.two (i := 4) (j := 15) (by kernel_rfl) rfl rfl ?_ ?_ 
  ·refine yl ag_49 4 (nl ?_)
   refine T1 (i := 6) rfl (freeIdxSl (j := k) rfl ss_49 (by decide) (E rfl rfl) (E rfl rfl) ⟨rfl, by rw [len_code]; omega⟩) ?_
   exact to' (n46_ (A19, b5, b6) hA19) (su (su (su (su (su (su (su sn)))))))
  refine Y1 (Yv.loadEp rfl ag_101 (i := 5) rfl eV (fun hg => sw_cell hkl)) (nl ?_)
  exact to' (n22_ (A19, b5, b6) hA19) (su (su (su (su (su (su (su (su sn))))))))
 intro n18_
 refine AWP.node (ι := Nat × Nat) 7 (bA 21 458287) (fun ⟨b5, b6⟩ => [(14, true, .v (.pointer (some ⟨bw, 0 + 0 + 4, none⟩))), (16, true, zn k), (26, true, swCell (fs.sls.getD k default)), (5, true, pv b5), (6, true, pv b6), (0, true, pv bw), (1, true, zn k)]) (fun ⟨b5, b6⟩ => (z58 b5 :: z101 b6 :: .map m (lmT (whL f.code)) :: FSt bw f m aA n fs)) (fun ⟨b5, b6⟩ => True) ?_ ?_
 ·rintro ⟨b5, b6⟩ _
  refine AWP.two (i := 4) (j := 8) (by kernel_rfl) rfl rfl ?_ ?_ 
  ·refine yl ag_49 3 (nl ?_)
   refine T1 (i := 6) rfl (freeIdxSl (j := k) rfl ss_49 (by decide) (E rfl rfl) (E rfl rfl) ⟨rfl, by rw [len_code]; omega⟩) ?_
   exact to' (n38_ (b5, b6) trivial) (su (su (su (su (su (su sn))))))
  refine AWL.buildSliceRowS rfl rfl (B rfl) rfl el_101 (B rfl) rfl evs0 nB rfl rfl (fun A19 hA19 => ?_)
  refine pi0 (nl ?_)
  exact to' (n22_ (A19, b5, b6) hA19) (su (su (su (su (su (su (su (su sn))))))))
 intro n10_
 refine AWP.node (ι := Option Addr) 8 (bA 21 12287) (fun A19 => [(18, true, .agg (insCells (f.code.getD k default))), (19, true, .v (.slice A19 0 0)), (22, true, .v (.pointer (some ⟨bw, 0 + 6, none⟩))), (24, true, zn k), (0, true, pv bw), (1, true, zn k)]) (fun A19 => (.row A19 0 0 39 1 [] :: .map m (lmT (whL f.code)) :: FSt bw f m aA n fs)) (fun A19 => A19.isSome = true) ?_ ?_
 ·rintro A19 hA19
  refine AWP.three (i := 12) (j := 17) (k := 18) (by kernel_rfl) rfl rfl rfl ?_ ?_ ?_ 
  ·refine yl ag_98 2 (nl ?_)
   refine T1 (i := 14) rfl (freeIdxRow (i := 3) rfl ss_98 rfl (E rfl rfl) (E rfl rfl) ⟨rfl, by omega⟩) ?_
   exact to' (n71_ A19 hA19) (su (su (su (su (su sn)))))
  ·refine AWL.allocOp rfl rfl (B rfl) rfl zc_58 (fun b5 => ?_)
   refine pi1 (nl ?_)
   exact to' (n69_ (A19, b5) hA19) (su (su (su (su (su (su (su sn)))))))
  refine AWL.allocOp rfl rfl (B rfl) rfl zc_101 (fun b6 => ?_)
  refine pi1 (nl ?_)
  exact to' (n68_ (A19, b6) hA19) (su (su (su (su (su (su (su sn)))))))
 intro n67_
 refine AWP.node (ι := Nat) 8 (bA 21 143103) (fun b5 => [(18, true, .agg (insCells (f.code.getD k default))), (22, true, .v (.pointer (some ⟨bw, 0 + 6, none⟩))), (24, true, zn k), (5, true, pv b5), (0, true, pv bw), (1, true, zn k)]) (fun b5 => (z58 b5 :: .map m (lmT (whL f.code)) :: FSt bw f m aA n fs)) (fun b5 => True) ?_ ?_
 ·rintro b5 _
  refine AWP.three (i := 8) (j := 12) (k := 18) (by kernel_rfl) rfl rfl rfl ?_ ?_ ?_ 
  ·refine AWL.buildSliceRowS rfl rfl (B rfl) rfl el_101 (B rfl) rfl evs0 nB rfl rfl (fun A19 hA19 => ?_)
   refine pi0 (nl ?_)
   exact to' (n69_ (A19, b5) hA19) (su (su (su (su (su (su (su sn)))))))
  ·refine yl ag_98 2 (nl ?_)
   refine T1 (i := 14) rfl (freeIdxRow (i := 3) rfl ss_98 rfl (E rfl rfl) (E rfl rfl) ⟨rfl, by omega⟩) ?_
   exact to' (n61_ b5 trivial) (su (su (su (su (su sn)))))
  refine AWL.allocOp rfl rfl (B rfl) rfl zc_101 (fun b6 => ?_)
  refine pi1 (nl ?_)
  exact to' (n58_ (b5, b6) trivial) (su (su (su (su (su (su (su sn)))))))
 intro n57_
 refine AWP.node (ι := Nat) 8 (bA 21 274175) (fun b6 => [(18, true, .agg (insCells (f.code.getD k default))), (22, true, .v (.pointer (some ⟨bw, 0 + 6, none⟩))), (24, true, zn k), (6, true, pv b6), (0, true, pv bw), (1, true, zn k)]) (fun b6 => (z101 b6 :: .map m (lmT (whL f.code)) :: FSt bw f m aA n fs)) (fun b6 => True) ?_ ?_
 ·rintro b6 _
  refine AWP.three (i := 8) (j := 12) (k := 17) (by kernel_rfl) rfl rfl rfl ?_ ?_ ?_ 
  ·refine AWL.buildSliceRowS rfl rfl (B rfl) rfl el_101 (B rfl) rfl evs0 nB rfl rfl (fun A19 hA19 => ?_)
   refine pi0 (nl ?_)
   exact to' (n68_ (A19, b6) hA19) (su (su (su (su (su (su (su sn)))))))
  ·refine yl ag_98 2 (nl ?_)
   refine T1 (i := 14) rfl (freeIdxRow (i := 3) rfl ss_98 rfl (E rfl rfl) (E rfl rfl) ⟨rfl, by omega⟩) ?_
   exact to' (n60_ b6 trivial) (su (su (su (su (su sn)))))
  refine AWL.allocOp rfl rfl (B rfl) rfl zc_58 (fun b5 => ?_)
  refine pi0 (nl ?_)
  exact to' (n58_ (b5, b6) trivial) (su (su (su (su (su (su (su sn)))))))
 intro n56_
 refine AWP.node (ι := Option Addr × Nat) 8 (bA 21 143231) (fun ⟨A19, b5⟩ => [(17, true, .rp (f.code.flatMap insCells) (k * 11)), (19, true, .v (.slice A19 0 0)), (22, true, .v (.pointer (some ⟨bw, 0 + 6, none⟩))), (24, true, zn k), (5, true, pv b5), (0, true, pv bw), (1, true, zn k)]) (fun ⟨A19, b5⟩ => (.row A19 0 0 39 1 [] :: z58 b5 :: .map m (lmT (whL f.code)) :: FSt bw f m aA n fs)) (fun ⟨A19, b5⟩ => A19.isSome = true) ?_ ?_
 ·rintro ⟨A19, b5⟩ hA19
  refine AWP.three (i := 7) (j := 12) (k := 18) (by kernel_rfl) rfl rfl rfl ?_ ?_ ?_ 
  ·refine Y1 (Yv.loadRpA rfl ag_58 eV (fun hg => ins_cells hkc)) (nl ?_)
   exact to' (n69_ (A19, b5) hA19) (su (su (su (su (su (su (su sn)))))))
  ·refine yl ag_98 3 (nl ?_)
   refine T1 (i := 14) rfl (freeIdxRow (i := 4) rfl ss_98 rfl (E rfl rfl) (E rfl rfl) ⟨rfl, by omega⟩) ?_
   exact to' (n45_ (A19, b5) hA19) (su (su (su (su (su (su sn))))))
  refine AWL.allocOp rfl rfl (B rfl) rfl zc_101 (fun b6 => ?_)
  refine pi2 (nl ?_)
  exact to' (n42_ (A19, b5, b6) hA19) (su (su (su (su (su (su (su (su sn))))))))
 intro n41_
 refine AWP.node (ι := Option Addr × Nat) 8 (bA 21 274303) (fun ⟨A19, b6⟩ => [(17, true, .rp (f.code.flatMap insCells) (k * 11)), (19, true, .v (.slice A19 0 0)), (22, true, .v (.pointer (some ⟨bw, 0 + 6, none⟩))), (24, true, zn k), (6, true, pv b6), (0, true, pv bw), (1, true, zn k)]) (fun ⟨A19, b6⟩ => (.row A19 0 0 39 1 [] :: z101 b6 :: .map m (lmT (whL f.code)) :: FSt bw f m aA n fs)) (fun ⟨A19, b6⟩ => A19.isSome = true) ?_ ?_
 ·rintro ⟨A19, b6⟩ hA19
  refine AWP.three (i := 7) (j := 12) (k := 17) (by kernel_rfl) rfl rfl rfl ?_ ?_ ?_ 
  ·refine Y1 (Yv.loadRpA rfl ag_58 eV (fun hg => ins_cells hkc)) (nl ?_)
   exact to' (n68_ (A19, b6) hA19) (su (su (su (su (su (su (su sn)))))))
  ·refine yl ag_98 3 (nl ?_)
   refine T1 (i := 14) rfl (freeIdxRow (i := 4) rfl ss_98 rfl (E rfl rfl) (E rfl rfl) ⟨rfl, by omega⟩) ?_
   exact to' (n44_ (A19, b6) hA19) (su (su (su (su (su (su sn))))))
  refine AWL.allocOp rfl rfl (B rfl) rfl zc_58 (fun b5 => ?_)
  refine pi1 (nl ?_)
  exact to' (n42_ (A19, b5, b6) hA19) (su (su (su (su (su (su (su (su sn))))))))
 intro n40_
 refine AWP.node (ι := Unit) 8 (bA 21 32383) (fun _ => [(17, true, .rp (f.code.flatMap insCells) (k * 11)), (25, true, .ep (.slice aA n n) (k * 1)), (0, true, pv bw), (1, true, zn k)]) (fun _ => (.map m (lmT (whL f.code)) :: FSt bw f m aA n fs)) (fun _ => True) ?_ ?_
 ·rintro _ _
  refine AWP.five (i0 := 7) (i1 := 8) (i2 := 15) (i3 := 17) (i4 := 18) (by kernel_rfl) rfl rfl rfl rfl rfl ?_ ?_ ?_ ?_ ?_ 
  ·refine Y1 (Yv.loadRpA rfl ag_58 eV (fun hg => ins_cells hkc)) (nl ?_)
   exact to' (n59_ () trivial) (su (su (su (su sn))))
  ·refine AWL.buildSliceRowS rfl rfl (B rfl) rfl el_101 (B rfl) rfl evs0 nB rfl rfl (fun A19 hA19 => ?_)
   refine pi0 (nl ?_)
   exact to' (n43_ A19 hA19) (su (su (su (su (su sn)))))
  ·refine Y1 (Yv.loadEp rfl ag_101 (i := 2) rfl eV (fun hg => sw_cell hkl)) (nl ?_)
   exact to' (n35_ () trivial) (su (su (su (su sn))))
  ·refine AWL.allocOp rfl rfl (B rfl) rfl zc_58 (fun b5 => ?_)
   refine pi0 (nl ?_)
   exact to' (n33_ b5 trivial) (su (su (su (su (su sn)))))
  refine AWL.allocOp rfl rfl (B rfl) rfl zc_101 (fun b6 => ?_)
  refine pi0 (nl ?_)
  exact to' (n32_ b6 trivial) (su (su (su (su (su sn)))))
 intro n31_
 refine AWP.node (ι := Nat × Nat) 8 (bA 21 405119) (fun ⟨b5, b6⟩ => [(17, true, .rp (f.code.flatMap insCells) (k * 11)), (22, true, .v (.pointer (some ⟨bw, 0 + 6, none⟩))), (24, true, zn k), (5, true, pv b5), (6, true, pv b6), (0, true, pv bw), (1, true, zn k)]) (fun ⟨b5, b6⟩ => (z58 b5 :: z101 b6 :: .map m (lmT (whL f.code)) :: FSt bw f m aA n fs)) (fun ⟨b5, b6⟩ => True) ?_ ?_
 ·rintro ⟨b5, b6⟩ _
  refine AWP.three (i := 7) (j := 8) (k := 12) (by kernel_rfl) rfl rfl rfl ?_ ?_ ?_ 
  ·refine Y1 (Yv.loadRpA rfl ag_58 eV (fun hg => ins_cells hkc)) (nl ?_)
   exact to' (n58_ (b5, b6) trivial) (su (su (su (su (su (su (su sn)))))))
  ·refine AWL.buildSliceRowS rfl rfl (B rfl) rfl el_101 (B rfl) rfl evs0 nB rfl rfl (fun A19 hA19 => ?_)
   refine pi0 (nl ?_)
   exact to' (n42_ (A19, b5, b6) hA19) (su (su (su (su (su (su (su (su sn))))))))
  refine yl ag_98 3 (nl ?_)
  refine T1 (i := 14) rfl (freeIdxRow (i := 4) rfl ss_98 rfl (E rfl rfl) (E rfl rfl) ⟨rfl, by omega⟩) ?_
  exact to' (n34_ (b5, b6) trivial) (su (su (su (su (su (su sn))))))
 intro n30_
 refine AWP.node (ι := Option Addr) 8 (bA 21 65327) (fun A19 => [(14, true, .v (.pointer (some ⟨bw, 0 + 0 + 4, none⟩))), (16, true, zn k), (19, true, .v (.slice A19 0 0)), (26, true, swCell (fs.sls.getD k default)), (0, true, pv bw), (1, true, zn k)]) (fun A19 => (.row A19 0 0 39 1 [] :: .map m (lmT (whL f.code)) :: FSt bw f m aA n fs)) (fun A19 => A19.isSome = true) ?_ ?_
 ·rintro A19 hA19
  refine AWP.four (i0 := 4) (i1 := 16) (i2 := 17) (i3 := 18) (by kernel_rfl) rfl rfl rfl rfl ?_ ?_ ?_ ?_ 
  ·refine yl ag_49 2 (nl ?_)
   refine T1 (i := 6) rfl (freeIdxSl (j := k) rfl ss_49 (by decide) (E rfl rfl) (E rfl rfl) ⟨rfl, by rw [len_code]; omega⟩) ?_
   exact to' (n47_ A19 hA19) (su (su (su (su (su sn)))))
  ·refine AWL.appendRowS (i := 0) rfl rfl (B rfl) rfl el_101 (B rfl) rfl (E rfl rfl) (SrcT.row so_101 (i := k + 5) (sw_row hkl) (E rfl rfl)) (by unfold maxLen; omega) (by omega) hA19 (fun A27 c27 hA27 => ?_)
   rw [Nat.zero_add]
   refine nl ?_
   exact to' (n23_ (A19, A27, c27) ⟨hA19, hA27⟩) (su (su (su (su (su sn)))))
  ·refine AWL.allocOp rfl rfl (B rfl) rfl zc_58 (fun b5 => ?_)
   refine pi1 (nl ?_)
   exact to' (n21_ (A19, b5) hA19) (su (su (su (su (su (su (su sn)))))))
  refine AWL.allocOp rfl rfl (B rfl) rfl zc_101 (fun b6 => ?_)
  refine pi1 (nl ?_)
  exact to' (n20_ (A19, b6) hA19) (su (su (su (su (su (su (su sn)))))))
 intro n19_
 refine AWP.node (ι := Option Addr × Nat) 8 (bA 21 163631) (fun ⟨A19, b5⟩ => [(14, true, .v (.pointer (some ⟨bw, 0 + 0 + 4, none⟩))), (16, true, zn k), (19, true, .v (.slice A19 0 0)), (25, true, .ep (.slice aA n n) (k * 1)), (5, true, pv b5), (0, true, pv bw), (1, true, zn k)]) (fun ⟨A19, b5⟩ => (.row A19 0 0 39 1 [] :: z58 b5 :: .map m (lmT (whL f.code)) :: FSt bw f m aA n fs)) (fun ⟨A19, b5⟩ => A19.isSome = true) ?_ ?_
 ·rintro ⟨A19, b5⟩ hA19
  refine AWP.three (i := 4) (j := 15) (k := 18) (by kernel_rfl) rfl rfl rfl ?_ ?_ ?_ 
  ·refine yl ag_49 3 (nl ?_)
   refine T1 (i := 6) rfl (freeIdxSl (j := k) rfl ss_49 (by decide) (E rfl rfl) (E rfl rfl) ⟨rfl, by rw [len_code]; omega⟩) ?_
   exact to' (n45_ (A19, b5) hA19) (su (su (su (su (su (su sn))))))
  ·refine Y1 (Yv.loadEp rfl ag_101 (i := 4) rfl eV (fun hg => sw_cell hkl)) (nl ?_)
   exact to' (n21_ (A19, b5) hA19) (su (su (su (su (su (su (su sn)))))))
  refine AWL.allocOp rfl rfl (B rfl) rfl zc_101 (fun b6 => ?_)
  refine pi2 (nl ?_)
  exact to' (n18_ (A19, b5, b6) hA19) (su (su (su (su (su (su (su (su sn))))))))
 intro n17_
 refine AWP.node (ι := Option Addr × Nat) 8 (bA 21 294703) (fun ⟨A19, b6⟩ => [(14, true, .v (.pointer (some ⟨bw, 0 + 0 + 4, none⟩))), (16, true, zn k), (19, true, .v (.slice A19 0 0)), (25, true, .ep (.slice aA n n) (k * 1)), (6, true, pv b6), (0, true, pv bw), (1, true, zn k)]) (fun ⟨A19, b6⟩ => (.row A19 0 0 39 1 [] :: z101 b6 :: .map m (lmT (whL f.code)) :: FSt bw f m aA n fs)) (fun ⟨A19, b6⟩ => A19.isSome = true) ?_ ?_
 ·rintro ⟨A19, b6⟩ hA19
  refine AWP.three (i := 4) (j := 15) (k := 17) (by kernel_rfl) rfl rfl rfl ?_ ?_ ?_ 
  ·refine yl ag_49 3 (nl ?_)
   refine T1 (i := 6) rfl (freeIdxSl (j := k) rfl ss_49 (by decide) (E rfl rfl) (E rfl rfl) ⟨rfl, by rw [len_code]; omega⟩) ?_
   exact to' (n44_ (A19, b6) hA19) (su (su (su (su (su (su sn))))))
  ·refine Y1 (Yv.loadEp rfl ag_101 (i := 4) rfl eV (fun hg => sw_cell hkl)) (nl ?_)
   exact to' (n20_ (A19, b6) hA19) (su (su (su (su (su (su (su sn)))))))
  refine AWL.allocOp rfl rfl (B rfl) rfl zc_58 (fun b5 => ?_)
  refine pi1 (nl ?_)
  exact to' (n18_ (A19, b5, b6) hA19) (su (su (su (su (su (su (su (su sn))))))))
 intro n16_
 refine AWP.node (ι := Nat) 8 (bA 21 196143) (fun b5 => [(14, true, .v (.pointer (some ⟨bw, 0 + 0 + 4, none⟩))), (16, true, zn k), (26, true, swCell (fs.sls.getD k default)), (5, true, pv b5), (0, true, pv bw), (1, true, zn k)]) (fun b5 => (z58 b5 :: .map m (lmT (whL f.code)) :: FSt bw f m aA n fs)) (fun b5 => True) ?_ ?_
 ·rintro b5 _
  refine AWP.three (i := 4) (j := 8) (k := 18) (by kernel_rfl) rfl rfl rfl ?_ ?_ ?_ 
  ·refine yl ag_49 2 (nl ?_)
   refine T1 (i := 6) rfl (freeIdxSl (j := k) rfl ss_49 (by decide) (E rfl rfl) (E rfl rfl) ⟨rfl, by rw [len_code]; omega⟩) ?_
   exact to' (n37_ b5 trivial) (su (su (su (su (su sn)))))
  ·refine AWL.buildSliceRowS rfl rfl (B rfl) rfl el_101 (B rfl) rfl evs0 nB rfl rfl (fun A19 hA19 => ?_)
   refine pi0 (nl ?_)
   exact to' (n21_ (A19, b5) hA19) (su (su (su (su (su (su (su sn)))))))
  refine AWL.allocOp rfl rfl (B rfl) rfl zc_101 (fun b6 => ?_)
  refine pi1 (nl ?_)
  exact to' (n10_ (b5, b6) trivial) (su (su (su (su (su (su (su sn)))))))
 intro n9_
 refine AWP.node (ι := Nat) 8 (bA 21 327215) (fun b6 => [(14, true, .v (.pointer (some ⟨bw, 0 + 0 + 4, none⟩))), (16, true, zn k), (26, true, swCell (fs.sls.getD k default)), (6, true, pv b6), (0, true, pv bw), (1, true, zn k)]) (fun b6 => (z101 b6 :: .map m (lmT (whL f.code)) :: FSt bw f m aA n fs)) (fun b6 => True) ?_ ?_
 ·rintro b6 _
  refine AWP.three (i := 4) (j := 8) (k := 17) (by kernel_rfl) rfl rfl rfl ?_ ?_ ?_ 
  ·refine yl ag_49 2 (nl ?_)
   refine T1 (i := 6) rfl (freeIdxSl (j := k) rfl ss_49 (by decide) (E rfl rfl) (E rfl rfl) ⟨rfl, by rw [len_code]; omega⟩) ?_
   exact to' (n36_ b6 trivial) (su (su (su (su (su sn)))))
  ·refine AWL.buildSliceRowS rfl rfl (B rfl) rfl el_101 (B rfl) rfl evs0 nB rfl rfl (fun A19 hA19 => ?_)
   refine pi0 (nl ?_)
   exact to' (n20_ (A19, b6) hA19) (su (su (su (su (su (su (su sn)))))))
  refine AWL.allocOp rfl rfl (B rfl) rfl zc_58 (fun b5 => ?_)
  refine pi0 (nl ?_)
  exact to' (n10_ (b5, b6) trivial) (su (su (su (su (su (su (su sn)))))))
 intro n8_
 refine AWP.node (ι := Nat × Nat) 8 (bA 21 425519) (fun ⟨b5, b6⟩ => [(14, true, .v (.pointer (some ⟨bw, 0 + 0 + 4, none⟩))), (16, true, zn k), (25, true, .ep (.slice aA n n) (k * 1)), (5, true, pv b5), (6, true, pv b6), (0, true, pv bw), (1, true, zn k)]) (fun ⟨b5, b6⟩ => (z58 b5 :: z101 b6 :: .map m (lmT (whL f.code)) :: FSt bw f m aA n fs)) (fun ⟨b5, b6⟩ => True) ?_ ?_
 ·rintro ⟨b5, b6⟩ _
  refine AWP.three (i := 4) (j := 8) (k := 15) (by kernel_rfl) rfl rfl rfl ?_ ?_ ?_ 
  ·refine yl ag_49 3 (nl ?_)
   refine T1 (i := 6) rfl (freeIdxSl (j := k) rfl ss_49 (by decide) (E rfl rfl) (E rfl rfl) ⟨rfl, by rw [len_code]; omega⟩) ?_
   exact to' (n34_ (b5, b6) trivial) (su (su (su (su (su (su sn))))))
  ·refine AWL.buildSliceRowS rfl rfl (B rfl) rfl el_101 (B rfl) rfl evs0 nB rfl rfl (fun A19 hA19 => ?_)
   refine pi0 (nl ?_)
   exact to' (n18_ (A19, b5, b6) hA19) (su (su (su (su (su (su (su (su sn))))))))
  refine Y1 (Yv.loadEp rfl ag_101 (i := 4) rfl eV (fun hg => sw_cell hkl)) (nl ?_)
  exact to' (n10_ (b5, b6) trivial) (su (su (su (su (su (su (su sn)))))))
 intro n6_
 refine AWP.node (ι := Unit) 9 (bA 21 12031) (fun _ => [(18, true, .agg (insCells (f.code.getD k default))), (22, true, .v (.pointer (some ⟨bw, 0 + 6, none⟩))), (24, true, zn k), (0, true, pv bw), (1, true, zn k)]) (fun _ => (.map m (lmT (whL f.code)) :: FSt bw f m aA n fs)) (fun _ => True) ?_ ?_
 ·rintro _ _
  refine AWP.four (i0 := 8) (i1 := 12) (i2 := 17) (i3 := 18) (by kernel_rfl) rfl rfl rfl rfl ?_ ?_ ?_ ?_ 
  ·refine AWL.buildSliceRowS rfl rfl (B rfl) rfl el_101 (B rfl) rfl evs0 nB rfl rfl (fun A19 hA19 => ?_)
   refine pi0 (nl ?_)
   exact to' (n67_ A19 hA19) (su (su (su (su (su (su sn))))))
  ·refine yl ag_98 1 (nl ?_)
   refine T1 (i := 14) rfl (freeIdxRow (i := 2) rfl ss_98 rfl (E rfl rfl) (E rfl rfl) ⟨rfl, by omega⟩) ?_
   exact to' (n59_ () trivial) (su (su (su (su sn))))
  ·refine AWL.allocOp rfl rfl (B rfl) rfl zc_58 (fun b5 => ?_)
   refine pi0 (nl ?_)
   exact to' (n57_ b5 trivial) (su (su (su (su (su (su sn))))))
  refine AWL.allocOp rfl rfl (B rfl) rfl zc_101 (fun b6 => ?_)
  refine pi0 (nl ?_)
  exact to' (n56_ b6 trivial) (su (su (su (su (su (su sn))))))
 intro n55_
 refine AWP.node (ι := Option Addr) 9 (bA 21 12159) (fun A19 => [(17, true, .rp (f.code.flatMap insCells) (k * 11)), (19, true, .v (.slice A19 0 0)), (22, true, .v (.pointer (some ⟨bw, 0 + 6, none⟩))), (24, true, zn k), (0, true, pv bw), (1, true, zn k)]) (fun A19 => (.row A19 0 0 39 1 [] :: .map m (lmT (whL f.code)) :: FSt bw f m aA n fs)) (fun A19 => A19.isSome = true) ?_ ?_
 ·rintro A19 hA19
  refine AWP.four (i0 := 7) (i1 := 12) (i2 := 17) (i3 := 18) (by kernel_rfl) rfl rfl rfl rfl ?_ ?_ ?_ ?_ 
  ·refine Y1 (Yv.loadRpA rfl ag_58 eV (fun hg => ins_cells hkc)) (nl ?_)
   exact to' (n67_ A19 hA19) (su (su (su (su (su (su sn))))))
  ·refine yl ag_98 2 (nl ?_)
   refine T1 (i := 14) rfl (freeIdxRow (i := 3) rfl ss_98 rfl (E rfl rfl) (E rfl rfl) ⟨rfl, by omega⟩) ?_
   exact to' (n43_ A19 hA19) (su (su (su (su (su sn)))))
  ·refine AWL.allocOp rfl rfl (B rfl) rfl zc_58 (fun b5 => ?_)
   refine pi1 (nl ?_)
   exact to' (n41_ (A19, b5) hA19) (su (su (su (su (su (su (su sn)))))))
  refine AWL.allocOp rfl rfl (B rfl) rfl zc_101 (fun b6 => ?_)
  refine pi1 (nl ?_)
  exact to' (n40_ (A19, b6) hA19) (su (su (su (su (su (su (su sn)))))))
 intro n39_
 refine AWP.node (ι := Nat) 9 (bA 21 142975) (fun b5 => [(17, true, .rp (f.code.flatMap insCells) (k * 11)), (22, true, .v (.pointer (some ⟨bw, 0 + 6, none⟩))), (24, true, zn k), (5, true, pv b5), (0, true, pv bw), (1, true, zn k)]) (fun b5 => (z58 b5 :: .map m (lmT (whL f.code)) :: FSt bw f m aA n fs)) (fun b5 => True) ?_ ?_
 ·rintro b5 _
  refine AWP.four (i0 := 7) (i1 := 8) (i2 := 12) (i3 := 18) (by kernel_rfl) rfl rfl rfl rfl ?_ ?_ ?_ ?_ 
  ·refine Y1 (Yv.loadRpA rfl ag_58 eV (fun hg => ins_cells hkc)) (nl ?_)
   exact to' (n57_ b5 trivial) (su (su (su (su (su (su sn))))))
  ·refine AWL.buildSliceRowS rfl rfl (B rfl) rfl el_101 (B rfl) rfl evs0 nB rfl rfl (fun A19 hA19 => ?_)
   refine pi0 (nl ?_)
   exact to' (n41_ (A19, b5) hA19) (su (su (su (su (su (su (su sn)))))))
  ·refine yl ag_98 2 (nl ?_)
   refine T1 (i := 14) rfl (freeIdxRow (i := 3) rfl ss_98 rfl (E rfl rfl) (E rfl rfl) ⟨rfl, by omega⟩) ?_
   exact to' (n33_ b5 trivial) (su (su (su (su (su sn)))))
  refine AWL.allocOp rfl rfl (B rfl) rfl zc_101 (fun b6 => ?_)
  refine pi1 (nl ?_)
  exact to' (n30_ (b5, b6) trivial) (su (su (su (su (su (su (su sn)))))))
 intro n29_
 refine AWP.node (ι := Nat) 9 (bA 21 274047) (fun b6 => [(17, true, .rp (f.code.flatMap insCells) (k * 11)), (22, true, .v (.pointer (some ⟨bw, 0 + 6, none⟩))), (24, true, zn k), (6, true, pv b6), (0, true, pv bw), (1, true, zn k)]) (fun b6 => (z101 b6 :: .map m (lmT (whL f.code)) :: FSt bw f m aA n fs)) (fun b6 => True) ?_ ?_
 ·rintro b6 _
  refine AWP.four (i0 := 7) (i1 := 8) (i2 := 12) (i3 := 17) (by kernel_rfl) rfl rfl rfl rfl ?_ ?_ ?_ ?_ 
  ·refine Y1 (Yv.loadRpA rfl ag_58 eV (fun hg => ins_cells hkc)) (nl ?_)
   exact to' (n56_ b6 trivial) (su (su (su (su (su (su sn))))))
  ·refine AWL.buildSliceRowS rfl rfl (B rfl) rfl el_101 (B rfl) rfl evs0 nB rfl rfl (fun A19 hA19 => ?_)
   refine pi0 (nl ?_)
   exact to' (n40_ (A19, b6) hA19) (su (su (su (su (su (su (su sn)))))))
  ·refine yl ag_98 2 (nl ?_)
   refine T1 (i := 14) rfl (freeIdxRow (i := 3) rfl ss_98 rfl (E rfl rfl) (E rfl rfl) ⟨rfl, by omega⟩) ?_
   exact to' (n32_ b6 trivial) (su (su (su (su (su sn)))))
  refine AWL.allocOp rfl rfl (B rfl) rfl zc_58 (fun b5 => ?_)
  refine pi0 (nl ?_)
  exact to' (n30_ (b5, b6) trivial) (su (su (su (su (su (su (su sn)))))))
 intro n28_
 refine AWP.node (ι := Option Addr) 9 (bA 21 32559) (fun A19 => [(14, true, .v (.pointer (some ⟨bw, 0 + 0 + 4, none⟩))), (16, true, zn k), (19, true, .v (.slice A19 0 0)), (25, true, .ep (.slice aA n n) (k * 1)), (0, true, pv bw), (1, true, zn k)]) (fun A19 => (.row A19 0 0 39 1 [] :: .map m (lmT (whL f.code)) :: FSt bw f m aA n fs)) (fun A19 => A19.isSome = true) ?_ ?_
 ·rintro A19 hA19
  refine AWP.four (i0 := 4) (i1 := 15) (i2 := 17) (i3 := 18) (by kernel_rfl) rfl rfl rfl rfl ?_ ?_ ?_ ?_ 
  ·refine yl ag_49 2 (nl ?_)
   refine T1 (i := 6) rfl (freeIdxSl (j := k) rfl ss_49 (by decide) (E rfl rfl) (E rfl rfl) ⟨rfl, by rw [len_code]; omega⟩) ?_
   exact to' (n43_ A19 hA19) (su (su (su (su (su sn)))))
  ·refine Y1 (Yv.loadEp rfl ag_101 (i := 3) rfl eV (fun hg => sw_cell hkl)) (nl ?_)
   exact to' (n19_ A19 hA19) (su (su (su (su (su (su sn))))))
  ·refine AWL.allocOp rfl rfl (B rfl) rfl zc_58 (fun b5 => ?_)
   refine pi1 (nl ?_)
   exact to' (n17_ (A19, b5) hA19) (su (su (su (su (su (su (su sn)))))))
  refine AWL.allocOp rfl rfl (B rfl) rfl zc_101 (fun b6 => ?_)
  refine pi1 (nl ?_)
  exact to' (n16_ (A19, b6) hA19) (su (su (su (su (su (su (su sn)))))))
 intro n15_
 refine AWP.node (ι := Option Addr × Nat × Nat) 9 (bA 21 405295) (fun ⟨A19, b5, b6⟩ => [(14, true, .v (.pointer (some ⟨bw, 0 + 0 + 4, none⟩))), (16, true, zn k), (19, true, .v (.slice A19 0 0)), (22, true, .v (.pointer (some ⟨bw, 0 + 6, none⟩))), (24, true, zn k), (5, true, pv b5), (6, true, pv b6), (0, true, pv bw), (1, true, zn k)]) (fun ⟨A19, b5, b6⟩ => (.row A19 0 0 39 1 [] :: z58 b5 :: z101 b6 :: .map m (lmT (whL f.code)) :: FSt bw f m aA n fs)) (fun ⟨A19, b5, b6⟩ => A19.isSome = true) ?_ ?_
 ·rintro ⟨A19, b5, b6⟩ hA19
  refine AWP.two (i := 4) (j := 12) (by kernel_rfl) rfl rfl ?_ ?_ 
  ·refine yl ag_49 4 (nl ?_)
   refine T1 (i := 6) rfl (freeIdxSl (j := k) rfl ss_49 (by decide) (E rfl rfl) (E rfl rfl) ⟨rfl, by rw [len_code]; omega⟩) ?_
   exact to' (n42_ (A19, b5, b6) hA19) (su (su (su (su (su (su (su (su sn))))))))
  refine yl ag_98 4 (nl ?_)
  refine T1 (i := 14) rfl (freeIdxRow (i := 5) rfl ss_98 rfl (E rfl rfl) (E rfl rfl) ⟨rfl, by omega⟩) ?_
  exact to' (n18_ (A19, b5, b6) hA19) (su (su (su (su (su (su (su (su sn))))))))
 intro n14_
 refine AWP.node (ι := Unit) 9 (bA 21 65071) (fun _ => [(14, true, .v (.pointer (some ⟨bw, 0 + 0 + 4, none⟩))), (16, true, zn k), (26, true, swCell (fs.sls.getD k default)), (0, true, pv bw), (1, true, zn k)]) (fun _ => (.map m (lmT (whL f.code)) :: FSt bw f m aA n fs)) (fun _ => True) ?_ ?_
 ·rintro _ _
  refine AWP.four (i0 := 4) (i1 := 8) (i2 := 17) (i3 := 18) (by kernel_rfl) rfl rfl rfl rfl ?_ ?_ ?_ ?_ 
  ·refine yl ag_49 1 (nl ?_)
   refine T1 (i := 6) rfl (freeIdxSl (j := k) rfl ss_49 (by decide) (E rfl rfl) (E rfl rfl) ⟨rfl, by rw [len_code]; omega⟩) ?_
   exact to' (n35_ () trivial) (su (su (su (su sn))))
  ·refine AWL.buildSliceRowS rfl rfl (B rfl) rfl el_101 (B rfl) rfl evs0 nB rfl rfl (fun A19 hA19 => ?_)
   refine pi0 (nl ?_)
   exact to' (n19_ A19 hA19) (su (su (su (su (su (su sn))))))
  ·refine AWL.allocOp rfl rfl (B rfl) rfl zc_58 (fun b5 => ?_)
   refine pi0 (nl ?_)
   exact to' (n9_ b5 trivial) (su (su (su (su (su (su sn))))))
  refine AWL.allocOp rfl rfl (B rfl) rfl zc_101 (fun b6 => ?_)
  refine pi0 (nl ?_)
  exact to' (n8_ b6 trivial) (su (su (su (su (su (su sn))))))
 intro n7_
 refine AWP.node (ι := Nat) 9 (bA 21 163375) (fun b5 => [(14, true, .v (.pointer (some ⟨bw, 0 + 0 + 4, none⟩))), (16, true, zn k), (25, true, .ep (.slice aA n n) (k * 1)), (5, true, pv b5), (0, true, pv bw), (1, true, zn k)]) (fun b5 => (z58 b5 :: .map m (lmT (whL f.code)) :: FSt bw f m aA n fs)) (fun b5 => True) ?_ ?_
 ·rintro b5 _
  refine AWP.four (i0 := 4) (i1 := 8) (i2 := 15) (i3 := 18) (by kernel_rfl) rfl rfl rfl rfl ?_ ?_ ?_ ?_ 
  ·refine yl ag_49 2 (nl ?_)
   refine T1 (i := 6) rfl (freeIdxSl (j := k) rfl ss_49 (by decide) (E rfl rfl) (E rfl rfl) ⟨rfl, by rw [len_code]; omega⟩) ?_
   exact to' (n33_ b5 trivial) (su (su (su (su (su sn)))))
  ·refine AWL.buildSliceRowS rfl rfl (B rfl) rfl el_101 (B rfl) rfl evs0 nB rfl rfl (fun A19 hA19 => ?_)
   refine pi0 (nl ?_)
   exact to' (n17_ (A19, b5) hA19) (su (su (su (su (su (su (su sn)))))))
  ·refine Y1 (Yv.loadEp rfl ag_101 (i := 3) rfl eV (fun hg => sw_cell hkl)) (nl ?_)
   exact to' (n9_ b5 trivial) (su (su (su (su (su (su sn))))))
  refine AWL.allocOp rfl rfl (B rfl) rfl zc_101 (fun b6 => ?_)
  refine pi1 (nl ?_)
  exact to' (n6_ (b5, b6) trivial) (su (su (su (su (su (su (su sn)))))))
 intro n5_
 refine AWP.node (ι := Nat) 9 (bA 21 294447) (fun b6 => [(14, true, .v (.pointer (some ⟨bw, 0 + 0 + 4, none⟩))), (16, true, zn k), (25, true, .ep (.slice aA n n) (k * 1)), (6, true, pv b6), (0, true, pv bw), (1, true, zn k)]) (fun b6 => (z101 b6 :: .map m (lmT (whL f.code)) :: FSt bw f m aA n fs)) (fun b6 => True) ?_ ?_
 ·rintro b6 _
  refine AWP.four (i0 := 4) (i1 := 8) (i2 := 15) (i3 := 17) (by kernel_rfl) rfl rfl rfl rfl ?_ ?_ ?_ ?_ 
  ·refine yl ag_49 2 (nl ?_)
   refine T1 (i := 6) rfl (freeIdxSl (j := k) rfl ss_49 (by decide) (E rfl rfl) (E rfl rfl) ⟨rfl, by rw [len_code]; omega⟩) ?_
   exact to' (n32_ b6 trivial) (su (su (su (su (su sn)))))
  ·refine AWL.buildSliceRowS rfl rfl (B rfl) rfl el_101 (B rfl) rfl evs0 nB rfl rfl (fun A19 hA19 => ?_)
   refine pi0 (nl ?_)
   exact to' (n16_ (A19, b6) hA19) (su (su (su (su (su (su (su sn)))))))
  ·refine Y1 (Yv.loadEp rfl ag_101 (i := 3) rfl eV (fun hg => sw_cell hkl)) (nl ?_)
   exact to' (n8_ b6 trivial) (su (su (su (su (su (su sn))))))
  refine AWL.allocOp rfl rfl (B rfl) rfl zc_58 (fun b5 => ?_)
  refine pi0 (nl ?_)
  exact to' (n6_ (b5, b6) trivial) (su (su (su (su (su (su (su sn)))))))
 intro n4_
 refine AWP.node (ι := Unit) 10 (bA 21 11903) (fun _ => [(17, true, .rp (f.code.flatMap insCells) (k * 11)), (22, true, .v (.pointer (some ⟨bw, 0 + 6, none⟩))), (24, true, zn k), (0, true, pv bw), (1, true, zn k)]) (fun _ => (.map m (lmT (whL f.code)) :: FSt bw f m aA n fs)) (fun _ => True) ?_ ?_
 ·rintro _ _
  refine AWP.five (i0 := 7) (i1 := 8) (i2 := 12) (i3 := 17) (i4 := 18) (by kernel_rfl) rfl rfl rfl rfl rfl ?_ ?_ ?_ ?_ ?_ 
  ·refine Y1 (Yv.loadRpA rfl ag_58 eV (fun hg => ins_cells hkc)) (nl ?_)
   exact to' (n55_ () trivial) (su (su (su (su (su sn)))))
  ·refine AWL.buildSliceRowS rfl rfl (B rfl) rfl el_101 (B rfl) rfl evs0 nB rfl rfl (fun A19 hA19 => ?_)
   refine pi0 (nl ?_)
   exact to' (n39_ A19 hA19) (su (su (su (su (su (su sn))))))
  ·refine yl ag_98 1 (nl ?_)
   refine T1 (i := 14) rfl (freeIdxRow (i := 2) rfl ss_98 rfl (E rfl rfl) (E rfl rfl) ⟨rfl, by omega⟩) ?_
   exact to' (n31_ () trivial) (su (su (su (su sn))))
  ·refine AWL.allocOp rfl rfl (B rfl) rfl zc_58 (fun b5 => ?_)
   refine pi0 (nl ?_)
   exact to' (n29_ b5 trivial) (su (su (su (su (su (su sn))))))
  refine AWL.allocOp rfl rfl (B rfl) rfl zc_101 (fun b6 => ?_)
  refine pi0 (nl ?_)
  exact to' (n28_ b6 trivial) (su (su (su (su (su (su sn))))))
 intro n27_
 refine AWP.node (ι := Option Addr × Nat) 10 (bA 21 143151) (fun ⟨A19, b5⟩ => [(14, true, .v (.pointer (some ⟨bw, 0 + 0 + 4, none⟩))), (16, true, zn k), (19, true, .v (.slice A19 0 0)), (22, true, .v (.pointer (some ⟨bw, 0 + 6, none⟩))), (24, true, zn k), (5, true, pv b5), (0, true, pv bw), (1, true, zn k)]) (fun ⟨A19, b5⟩ => (.row A19 0 0 39 1 [] :: z58 b5 :: .map m (lmT (whL f.code)) :: FSt bw f m aA n fs)) (fun ⟨A19, b5⟩ => A19.isSome = true) ?_ ?_
 ·rintro ⟨A19, b5⟩ hA19
  refine AWP.three (i := 4) (j := 12) (k := 18) (by kernel_rfl) rfl rfl rfl ?_ ?_ ?_ 
  ·refine yl ag_49 3 (nl ?_)
   refine T1 (i := 6) rfl (freeIdxSl (j := k) rfl ss_49 (by decide) (E rfl rfl) (E rfl rfl) ⟨rfl, by rw [len_code]; omega⟩) ?_
   exact to' (n41_ (A19, b5) hA19) (su (su (su (su (su (su (su sn)))))))
  ·refine yl ag_98 3 (nl ?_)
   refine T1 (i := 14) rfl (freeIdxRow (i := 4) rfl ss_98 rfl (E rfl rfl) (E rfl rfl) ⟨rfl, by omega⟩) ?_
   exact to' (n17_ (A19, b5) hA19) (su (su (su (su (su (su (su sn)))))))
  refine AWL.allocOp rfl rfl (B rfl) rfl zc_101 (fun b6 => ?_)
  refine pi2 (nl ?_)
  exact to' (n14_ (A19, b5, b6) hA19) (su (su (su (su (su (su (su (su (su sn)))))))))
 intro n13_
 refine AWP.node (ι := Option Addr × Nat) 10 (bA 21 274223) (fun ⟨A19, b6⟩ => [(14, true, .v (.pointer (some ⟨bw, 0 + 0 + 4, none⟩))), (16, true, zn k), (19, true, .v (.slice A19 0 0)), (22, true, .v (.pointer (some ⟨bw, 0 + 6, none⟩))), (24, true, zn k), (6, true, pv b6), (0, true, pv bw), (1, true, zn k)]) (fun ⟨A19, b6⟩ => (.row A19 0 0 39 1 [] :: z101 b6 :: .map m (lmT (whL f.code)) :: FSt bw f m aA n fs)) (fun ⟨A19, b6⟩ => A19.isSome = true) ?_ ?_
 ·rintro ⟨A19, b6⟩ hA19
  refine AWP.three (i := 4) (j := 12) (k := 17) (by kernel_rfl) rfl rfl rfl ?_ ?_ ?_ 
  ·refine yl ag_49 3 (nl ?_)
   refine T1 (i := 6) rfl (freeIdxSl (j := k) rfl ss_49 (by decide) (E rfl rfl) (E rfl rfl) ⟨rfl, by rw [len_code]; omega⟩) ?_
   exact to' (n40_ (A19, b6) hA19) (su (su (su (su (su (su (su sn)))))))
  ·refine yl ag_98 3 (nl ?_)
   refine T1 (i := 14) rfl (freeIdxRow (i := 4) rfl ss_98 rfl (E rfl rfl) (E rfl rfl) ⟨rfl, by omega⟩) ?_
   exact to' (n16_ (A19, b6) hA19) (su (su (su (su (su (su (su sn)))))))
  refine AWL.allocOp rfl rfl (B rfl) rfl zc_58 (fun b5 => ?_)
  refine pi1 (nl ?_)
  exact to' (n14_ (A19, b5, b6) hA19) (su (su (su (su (su (su (su (su (su sn)))))))))
 intro n12_
 refine AWP.node (ι := Unit) 10 (bA 21 32303) (fun _ => [(14, true, .v (.pointer (some ⟨bw, 0 + 0 + 4, none⟩))), (16, true, zn k), (25, true, .ep (.slice aA n n) (k * 1)), (0, true, pv bw), (1, true, zn k)]) (fun _ => (.map m (lmT (whL f.code)) :: FSt bw f m aA n fs)) (fun _ => True) ?_ ?_
 ·rintro _ _
  refine AWP.five (i0 := 4) (i1 := 8) (i2 := 15) (i3 := 17) (i4 := 18) (by kernel_rfl) rfl rfl rfl rfl rfl ?_ ?_ ?_ ?_ ?_ 
  ·refine yl ag_49 1 (nl ?_)
   refine T1 (i := 6) rfl (freeIdxSl (j := k) rfl ss_49 (by decide) (E rfl rfl) (E rfl rfl) ⟨rfl, by rw [len_code]; omega⟩) ?_
   exact to' (n31_ () trivial) (su (su (su (su sn))))
  ·refine AWL.buildSliceRowS rfl rfl (B rfl) rfl el_101 (B rfl) rfl evs0 nB rfl rfl (fun A19 hA19 => ?_)
   refine pi0 (nl ?_)
   exact to' (n15_ A19 hA19) (su (su (su (su (su (su sn))))))
  ·refine Y1 (Yv.loadEp rfl ag_101 (i := 2) rfl eV (fun hg => sw_cell hkl)) (nl ?_)
   exact to' (n7_ () trivial) (su (su (su (su (su sn)))))
  ·refine AWL.allocOp rfl rfl (B rfl) rfl zc_58 (fun b5 => ?_)
   refine pi0 (nl ?_)
   exact to' (n5_ b5 trivial) (su (su (su (su (su (su sn))))))
  refine AWL.allocOp rfl rfl (B rfl) rfl zc_101 (fun b6 => ?_)
  refine pi0 (nl ?_)
  exact to' (n4_ b6 trivial) (su (su (su (su (su (su sn))))))
 intro n3_
 refine AWP.node (ι := Nat × Nat) 10 (bA 21 405039) (fun ⟨b5, b6⟩ => [(14, true, .v (.pointer (some ⟨bw, 0 + 0 + 4, none⟩))), (16, true, zn k), (22, true, .v (.pointer (some ⟨bw, 0 + 6, none⟩))), (24, true, zn k), (5, true, pv b5), (6, true, pv b6), (0, true, pv bw), (1, true, zn k)]) (fun ⟨b5, b6⟩ => (z58 b5 :: z101 b6 :: .map m (lmT (whL f.code)) :: FSt bw f m aA n fs)) (fun ⟨b5, b6⟩ => True) ?_ ?_
 ·rintro ⟨b5, b6⟩ _
  refine AWP.three (i := 4) (j := 8) (k := 12) (by kernel_rfl) rfl rfl rfl ?_ ?_ ?_ 
  ·refine yl ag_49 3 (nl ?_)
   refine T1 (i := 6) rfl (freeIdxSl (j := k) rfl ss_49 (by decide) (E rfl rfl) (E rfl rfl) ⟨rfl, by rw [len_code]; omega⟩) ?_
   exact to' (n30_ (b5, b6) trivial) (su (su (su (su (su (su (su sn)))))))
  ·refine AWL.buildSliceRowS rfl rfl (B rfl) rfl el_101 (B rfl) rfl evs0 nB rfl rfl (fun A19 hA19 => ?_)
   refine pi0 (nl ?_)
   exact to' (n14_ (A19, b5, b6) hA19) (su (su (su (su (su (su (su (su (su sn)))))))))
  refine yl ag_98 3 (nl ?_)
  refine T1 (i := 14) rfl (freeIdxRow (i := 4) rfl ss_98 rfl (E rfl rfl) (E rfl rfl) ⟨rfl, by omega⟩) ?_
  exact to' (n6_ (b5, b6) trivial) (su (su (su (su (su (su (su sn)))))))
 intro n2_
 refine AWP.node (ι := Option Addr) 11 (bA 21 12079) (fun A19 => [(14, true, .v (.pointer (some ⟨bw, 0 + 0 + 4, none⟩))), (16, true, zn k), (19, true, .v (.slice A19 0 0)), (22, true, .v (.pointer (some ⟨bw, 0 + 6, none⟩))), (24, true, zn k), (0, true, pv bw), (1, true, zn k)]) (fun A19 => (.row A19 0 0 39 1 [] :: .map m (lmT (whL f.code)) :: FSt bw f m aA n fs)) (fun A19 => A19.isSome = true) ?_ ?_
 ·rintro A19 hA19
  refine AWP.four (i0 := 4) (i1 := 12) (i2 := 17) (i3 := 18) (by kernel_rfl) rfl rfl rfl rfl ?_ ?_ ?_ ?_ 
  ·refine yl ag_49 2 (nl ?_)
   refine T1 (i := 6) rfl (freeIdxSl (j := k) rfl ss_49 (by decide) (E rfl rfl) (E rfl rfl) ⟨rfl, by rw [len_code]; omega⟩) ?_
   exact to' (n39_ A19 hA19) (su (su (su (su (su (su sn))))))
  ·refine yl ag_98 2 (nl ?_)
   refine T1 (i := 14) rfl (freeIdxRow (i := 3) rfl ss_98 rfl (E rfl rfl) (E rfl rfl) ⟨rfl, by omega⟩) ?_
   exact to' (n15_ A19 hA19) (su (su (su (su (su (su sn))))))
  ·refine AWL.allocOp rfl rfl (B rfl) rfl zc_58 (fun b5 => ?_)
   refine pi1 (nl ?_)
   exact to' (n13_ (A19, b5) hA19) (su (su (su (su (su (su (su (su sn))))))))
  refine AWL.allocOp rfl rfl (B rfl) rfl zc_101 (fun b6 => ?_)
  refine pi1 (nl ?_)
  exact to' (n12_ (A19, b6) hA19) (su (su (su (su (su (su (su (su sn))))))))
 intro n11_
 refine AWP.node (ι := Nat) 11 (bA 21 142895) (fun b5 => [(14, true, .v (.pointer (some ⟨bw, 0 + 0 + 4, none⟩))), (16, true, zn k), (22, true, .v (.pointer (some ⟨bw, 0 + 6, none⟩))), (24, true, zn k), (5, true, pv b5), (0, true, pv bw), (1, true, zn k)]) (fun b5 => (z58 b5 :: .map m (lmT (whL f.code)) :: FSt bw f m aA n fs)) (fun b5 => True) ?_ ?_
 ·rintro b5 _
  refine AWP.four (i0 := 4) (i1 := 8) (i2 := 12) (i3 := 18) (by kernel_rfl) rfl rfl rfl rfl ?_ ?_ ?_ ?_ 
  ·refine yl ag_49 2 (nl ?_)
   refine T1 (i := 6) rfl (freeIdxSl (j := k) rfl ss_49 (by decide) (E rfl rfl) (E rfl rfl) ⟨rfl, by rw [len_code]; omega⟩) ?_
   exact to' (n29_ b5 trivial) (su (su (su (su (su (su sn))))))
  ·refine AWL.buildSliceRowS rfl rfl (B rfl) rfl el_101 (B rfl) rfl evs0 nB rfl rfl (fun A19 hA19 => ?_)
   refine pi0 (nl ?_)
   exact to' (n13_ (A19, b5) hA19) (su (su (su (su (su (su (su (su sn))))))))
  ·refine yl ag_98 2 (nl ?_)
   refine T1 (i := 14) rfl (freeIdxRow (i := 3) rfl ss_98 rfl (E rfl rfl) (E rfl rfl) ⟨rfl, by omega⟩) ?_
   exact to' (n5_ b5 trivial) (su (su (su (su (su (su sn))))))
  refine AWL.allocOp rfl rfl (B rfl) rfl zc_101 (fun b6 => ?_)
  refine pi1 (nl ?_)
  exact to' (n2_ (b5, b6) trivial) (su (su (su (su (su (su (su (su sn))))))))
 intro n1_
 refine AWP.node (ι := Nat) 11 (bA 21 273967) (fun b6 => [(14, true, .v (.pointer (some ⟨bw, 0 + 0 + 4, none⟩))), (16, true, zn k), (22, true, .v (.pointer (some ⟨bw, 0 + 6, none⟩))), (24, true, zn k), (6, true, pv b6), (0, true, pv bw), (1, true, zn k)]) (fun b6 => (z101 b6 :: .map m (lmT (whL f.code)) :: FSt bw f m aA n fs)) (fun b6 => True) ?_ ?_
 ·rintro b6 _
  refine AWP.four (i0 := 4) (i1 := 8) (i2 := 12) (i3 := 17) (by kernel_rfl) rfl rfl rfl rfl ?_ ?_ ?_ ?_ 
  ·refine yl ag_49 2 (nl ?_)
   refine T1 (i := 6) rfl (freeIdxSl (j := k) rfl ss_49 (by decide) (E rfl rfl) (E rfl rfl) ⟨rfl, by rw [len_code]; omega⟩) ?_
   exact to' (n28_ b6 trivial) (su (su (su (su (su (su sn))))))
  ·refine AWL.buildSliceRowS rfl rfl (B rfl) rfl el_101 (B rfl) rfl evs0 nB rfl rfl (fun A19 hA19 => ?_)
   refine pi0 (nl ?_)
   exact to' (n12_ (A19, b6) hA19) (su (su (su (su (su (su (su (su sn))))))))
  ·refine yl ag_98 2 (nl ?_)
   refine T1 (i := 14) rfl (freeIdxRow (i := 3) rfl ss_98 rfl (E rfl rfl) (E rfl rfl) ⟨rfl, by omega⟩) ?_
   exact to' (n4_ b6 trivial) (su (su (su (su (su (su sn))))))
  refine AWL.allocOp rfl rfl (B rfl) rfl zc_58 (fun b5 => ?_)
  refine pi0 (nl ?_)
  exact to' (n2_ (b5, b6) trivial) (su (su (su (su (su (su (su (su sn))))))))
 intro n0_
 refine AWP.five (i0 := 4) (i1 := 8) (i2 := 12) (i3 := 17) (i4 := 18) (by kernel_rfl) rfl rfl rfl rfl rfl ?_ ?_ ?_ ?_ ?_ 
 ·refine yl ag_49 1 (nl ?_)
  refine T1 (i := 6) rfl (freeIdxSl (j := k) rfl ss_49 (by decide) (E rfl rfl) (E rfl rfl) ⟨rfl, by rw [len_code]; omega⟩) ?_
  exact to' (n27_ () trivial) (su (su (su (su (su sn)))))
 ·refine AWL.buildSliceRowS rfl rfl (B rfl) rfl el_101 (B rfl) rfl evs0 nB rfl rfl (fun A19 hA19 => ?_)
  refine pi0 (nl ?_)
  exact to' (n11_ A19 hA19) (su (su (su (su (su (su (su sn)))))))
 ·refine yl ag_98 1 (nl ?_)
  refine T1 (i := 14) rfl (freeIdxRow (i := 2) rfl ss_98 rfl (E rfl rfl) (E rfl rfl) ⟨rfl, by omega⟩) ?_
  exact to' (n3_ () trivial) (su (su (su (su (su sn)))))
 ·refine AWL.allocOp rfl rfl (B rfl) rfl zc_58 (fun b5 => ?_)
  refine pi0 (nl ?_)
  exact to' (n1_ b5 trivial) (su (su (su (su (su (su (su sn)))))))
 refine AWL.allocOp rfl rfl (B rfl) rfl zc_101 (fun b6 => ?_)
 refine pi0 (nl ?_)
 exact to' (n0_ b6 trivial) (su (su (su (su (su (su (su sn)))))))

theorem step39 (p : Prog) (bw : Nat) (f : Fn) (m : Nat) (aA : Option Addr) (n K R : Nat) (fs : FS) (k : Nat) (hp : FnIn f) (hf : FnOk p f) (hR : f.regs = (R : Int)) (h : FOk n K fs) (hnf : n = f.code.length) (hk : k < n) (hK : f.regs + f.slots ≤ 64 * K) (hK2 : K ≤ 17409) (hv : (fs.sls.getD k default).v = some (fs.sls.getD k default).ws) (ht : fs.todo.length ≤ 4398046511000) :
    ACalls Try.prog 39 [.v (.pointer (some ⟨bw, 0, none⟩)), zn k] (.map m (lmT (whL f.code)) :: FSt bw f m aA n fs) (fun t S => ∃ fs', t = bv (readOkB R (f.code.getD k default) (absB (fs.sls.getD k default).ws)) ∧ ((readOkB R (f.code.getD k default) (absB (fs.sls.getD k default).ws)) = true → Tos n K (behindF R (f.code.getD k default) (absB (fs.sls.getD k default).ws)) ((nextF (whL f.code) (f.code.getD k default) k).map Int.toNat) fs fs') ∧ S = .map m (lmT (whL f.code)) :: FSt bw f m aA n fs') :=
 (step39_ p bw f m aA n K R fs k hp hf hR h hnf hk hK hK2 hv ht).less fun t S' ⟨fs', h1, h2, h3⟩ => ⟨_, h3, fs', h1, h2, rfl⟩
end Go.Proofs.Ytlfklgganokgdaa

namespace Go.Proofs.Ytlfklgganokgdaa
open Go Go.RowKit
theorem sf_not {f : Fn} {W : Nat} {X : Fam} {k : Nat} {a : List Bool} (ha : Above f f.regs.toNat W X) (hk : k < f.code.length) (hX : famAt X k = some a) (hb : readOkB f.regs.toNat (f.code.getD k default) a = false) : ¬ SF f W := by
 rintro ⟨Y, hY, hr⟩
 have h1 := ha Y hY k
 rw [hX] at h1
 cases hy : famAt Y k with
 | none => rw [hy] at h1; exact absurd h1 id
 | some b =>
  rw [hy] at h1
  have h2 := hr k b hk hy
  have : readOkB f.regs.toNat (f.code.getD k default) a = true := by
   unfold readOkB at h2 ⊢
   rw [Bool.and_eq_true, List.all_eq_true, Bool.or_eq_true] at h2 ⊢
   exact ⟨fun r hr' => h1 _ (h2.1 r hr'), h2.2.imp id (fun q => h1 _ q)⟩
  rw [hb] at this
  cases this
def closed (f : Fn) (R : Nat) (X : Fam) (k : Nat) (a : List Bool) : Prop := readOkB R (f.code.getD k default) a = true ∧ ∀ l ∈ nextF (whL f.code) (f.code.getD k default) k, leO (famAt X l.toNat) (some (behindF R (f.code.getD k default) a))
structure WJ (f : Fn) (R W n K : Nat) (fs : FS) (P : Nat → List Bool → Prop) : Prop where
 fok : FOk n K fs
 fin : FamIn f W (famW fs.sls)
 ab : Above f R W (famW fs.sls)
 fst : ∃ a, famAt (famW fs.sls) 0 = some a ∧ leB a (firstF R W f.params.toNat)
 todo : ∀ t ∈ fs.todo, t < n ∧ (famAt (famW fs.sls) t).isSome = true
 clo : ∀ k a, famAt (famW fs.sls) k = some a → k ∈ fs.todo ∨ closed f R (famW fs.sls) k a ∨ P k a
abbrev WI (f : Fn) (R W n K : Nat) (fs : FS) : Prop := WJ f R W n K fs (fun _ _ => False)
def meas (W : Nat) (fs : FS) : Nat := pot W (famW fs.sls) + fs.todo.length
theorem meetX_le {X : Fam} {l : Nat} {out : List Bool} (hl : l < X.length) (hlen : ∀ c, famAt X l = some c → c.length = out.length) {q : Nat} {b : List Bool} (h : leO (famAt X q) (some b)) : leO (famAt (meetX X l out) q) (some b) := by
 unfold meetX
 rw [famAt_set hl]
 by_cases hq : q = l
 ·subst hq
  rw [if_pos rfl]
  cases hX : famAt X q with
  | none => rw [hX] at h; exact absurd h id
  | some c =>
   rw [hX] at h
   intro n hn
   rw [meet_get (hlen c hX), Bool.and_eq_true] at hn
   exact h n hn.1
 rw [if_neg hq]; exact h
theorem meetX_out {X : Fam} {l : Nat} {out : List Bool} (hl : l < X.length) (hlen : ∀ c, famAt X l = some c → c.length = out.length) : leO (famAt (meetX X l out) l) (some out) := by
 unfold meetX
 rw [famAt_set hl, if_pos rfl]
 cases hX : famAt X l with
 | none => exact leB.refl _
 | some c =>
  intro n hn
  rw [meet_get (hlen c hX), Bool.and_eq_true] at hn
  exact hn.2
theorem WJ.to {f : Fn} {R W n K k : Nat} {fs fs' : FS} {a : List Bool} {l : Int} {ls : List Int} (hn : n = f.code.length) (hR : R ≤ W)
    (h : WJ f R W n K fs (fun k' a' => k' = k ∧ a' = a ∧ ∀ q ∈ ls, leO (famAt (famW fs.sls) q.toNat) (some (behindF R (f.code.getD k default) a)))) (hk : k < n) (hal : a.length = W) (ha : ∀ Y, Sol f R W Y → leO (famAt Y k) (some a))
    (hl : l ∈ nextF (whL f.code) (f.code.getD k default) k) (hll : l.toNat < n) (ht : ToR n K fs l.toNat (behindF R (f.code.getD k default) a) fs') :
    WJ f R W n K fs' (fun k' a' => k' = k ∧ a' = a ∧ ∀ q ∈ ls ++ [l], leO (famAt (famW fs'.sls) q.toNat) (some (behindF R (f.code.getD k default) a))) ∧ meas W fs' ≤ meas W fs ∧ (pot W (famW fs'.sls) ≤ pot W (famW fs.sls)) ∧ 2 * pot W (famW fs'.sls) + fs'.todo.length ≤ 2 * pot W (famW fs.sls) + fs.todo.length := by
 have hm := (FI.start h.fin h.ab h.fst).meet hR (by omega) hal ha hl (by omega)
 have hob : (behindF R (f.code.getD k default) a).length = W := by rw [behind_len (by omega), hal]
 have hlX : l.toNat < (famW fs.sls).length := by rw [h.fin.len]; omega
 have hlen : ∀ c, famAt (famW fs.sls) l.toNat = some c → c.length = (behindF R (f.code.getD k default) a).length := fun c hc => by rw [h.fin.bits _ c hc, hob]
 rw [Bool.false_or] at hm
 have hfm := ht.fam
 have htd := ht.todo
 rw [← hfm] at hm
 have hsub : ∀ t, t ∈ fs.todo → t ∈ fs'.todo := fun t q => by rw [htd]; split <;> simp [q]
 refine ⟨⟨ht.ok, hm.fin, hm.ab, hm.fst, fun t q => ?_, fun k' a' hk' => ?_⟩, ?_, hm.le, ?_⟩
 ·have key : ∀ t, t < n → (famAt (famW fs.sls) t).isSome = true → (famAt (famW fs'.sls) t).isSome = true := fun t _ hv => by
   rw [hfm]
   unfold meetX
   rw [famAt_set hlX]
   split
   ·rfl
   ·exact hv
  rw [htd] at q
  split at q
  ·rcases List.mem_append.1 q with q | q
   ·exact ⟨(h.todo t q).1, key t (h.todo t q).1 (h.todo t q).2⟩
   rw [List.mem_singleton.1 q]
   refine ⟨hll, ?_⟩
   rw [hfm]
   unfold meetX
   rw [famAt_set hlX, if_pos rfl]
   rfl
  exact ⟨(h.todo t q).1, key t (h.todo t q).1 (h.todo t q).2⟩
 ·have same : famAt (famW fs.sls) k' = some a' → k' ∈ fs'.todo ∨ closed f R (famW fs'.sls) k' a' ∨ (k' = k ∧ a' = a ∧ ∀ q ∈ ls ++ [l], leO (famAt (famW fs'.sls) q.toNat) (some (behindF R (f.code.getD k default) a))) := fun hv => by
   rcases h.clo k' a' hv with q | q | ⟨q1, q2, q3⟩
   ·exact .inl (hsub _ q)
   ·refine .inr (.inl ⟨q.1, fun l' hl' => ?_⟩)
    rw [hfm]
    exact meetX_le hlX hlen (q.2 l' hl')
   ·refine .inr (.inr ⟨q1, q2, fun q hq => ?_⟩)
    rw [hfm]
    rcases List.mem_append.1 hq with hq | hq
    ·exact meetX_le hlX hlen (q3 q hq)
    ·rw [List.mem_singleton.1 hq]
     exact meetX_out hlX hlen
  cases hc : chg (famW fs.sls) l.toNat (behindF R (f.code.getD k default) a) with
  | false =>
   have := hm.eq hc
   rw [this] at hk'
   exact same hk'
  | true =>
   by_cases hkl : k' = l.toNat
   ·left
    rw [htd, if_pos hc, hkl]
    simp
   ·refine same ?_
    rw [hfm] at hk'
    unfold meetX at hk'
    rw [famAt_set hlX, if_neg hkl] at hk'
    exact hk'
 ·unfold meas
  rw [htd]
  cases hc : chg (famW fs.sls) l.toNat (behindF R (f.code.getD k default) a) with
  | false => have := hm.le; simp only [Bool.false_eq_true, if_false]; omega
  | true => have := hm.lt hc; simp only [if_true, List.length_append, List.length_cons, List.length_nil]; omega
 rw [htd]
 cases hc : chg (famW fs.sls) l.toNat (behindF R (f.code.getD k default) a) with
 | false => have := hm.le; simp only [Bool.false_eq_true, if_false]; omega
 | true => have := hm.lt hc; simp only [if_true, List.length_append, List.length_cons, List.length_nil]; omega
theorem WJ.tos {f : Fn} {R W n K k : Nat} {a : List Bool} (hn : n = f.code.length) (hR : R ≤ W) (hk : k < n) (hal : a.length = W) (ha : ∀ Y, Sol f R W Y → leO (famAt Y k) (some a)) (hin : ∀ l ∈ nextF (whL f.code) (f.code.getD k default) k, 0 ≤ l ∧ l.toNat < n) :
    ∀ (rest ls : List Int) {fs fs' : FS}, (∀ l ∈ rest, l ∈ nextF (whL f.code) (f.code.getD k default) k) → WJ f R W n K fs (fun k' a' => k' = k ∧ a' = a ∧ ∀ q ∈ ls, leO (famAt (famW fs.sls) q.toNat) (some (behindF R (f.code.getD k default) a))) → Tos n K (behindF R (f.code.getD k default) a) (rest.map Int.toNat) fs fs' →
     WJ f R W n K fs' (fun k' a' => k' = k ∧ a' = a ∧ ∀ q ∈ ls ++ rest, leO (famAt (famW fs'.sls) q.toNat) (some (behindF R (f.code.getD k default) a))) ∧ meas W fs' ≤ meas W fs ∧ 2 * pot W (famW fs'.sls) + fs'.todo.length ≤ 2 * pot W (famW fs.sls) + fs.todo.length
 | [], ls, fs, fs', _, h, ht => by
  rw [show fs' = fs from ht, List.append_nil]
  exact ⟨h, Nat.le_refl _, Nat.le_refl _⟩
 | l :: r, ls, fs, fs', hr, h, ⟨fs1, h1, h2⟩ => by
  obtain ⟨q1, q2, _, q4⟩ := h.to hn hR hk hal ha (hr l List.mem_cons_self) (hin l (hr l List.mem_cons_self)).2 h1
  obtain ⟨p1, p2, p3⟩ := WJ.tos hn hR hk hal ha hin r (ls ++ [l]) (fun x hx => hr x (List.mem_cons_of_mem _ hx)) q1 h2
  rw [List.append_assoc] at p1
  exact ⟨p1, by omega, by omega⟩
theorem WI.round {p : Prog} {f : Fn} {R W n K : Nat} {fs fs' : FS} {a : List Bool} (hf : FnOk p f) (hn : n = f.code.length) (hR : R ≤ W) (h : WI f R W n K fs) (h0 : 0 < fs.todo.length)
    (hX : famAt (famW fs.sls) (fs.todo.getD (fs.todo.length - 1) default) = some a) (hok : readOkB R (f.code.getD (fs.todo.getD (fs.todo.length - 1) default) default) a = true) {tA : Option Addr} {tc : Nat}
    (ht : Tos n K (behindF R (f.code.getD (fs.todo.getD (fs.todo.length - 1) default) default) a) ((nextF (whL f.code) (f.code.getD (fs.todo.getD (fs.todo.length - 1) default) default) (fs.todo.getD (fs.todo.length - 1) default)).map Int.toNat) ⟨fs.sls, fs.todo.take (fs.todo.length - 1), tA, tc⟩ fs') :
    WI f R W n K fs' ∧ meas W fs' ≤ meas W fs ∧ 2 * pot W (famW fs'.sls) + fs'.todo.length < 2 * pot W (famW fs.sls) + fs.todo.length := by
 have hmem := getD_mem (l := fs.todo) (j := fs.todo.length - 1) (by omega)
 have hsplit : fs.todo = fs.todo.take (fs.todo.length - 1) ++ [fs.todo.getD (fs.todo.length - 1) default] := by
  conv => lhs; rw [← List.take_length (l := fs.todo), show fs.todo.length = (fs.todo.length - 1) + 1 by omega]
  exact take_gd (by omega)
 generalize fs.todo.getD (fs.todo.length - 1) default = k at *
 have hk := (h.todo k hmem).1
 have hal := h.fin.bits k a hX
 have hha : ∀ Y, Sol f R W Y → leO (famAt Y k) (some a) := fun Y hY => by
  have := h.ab Y hY k
  rwa [hX] at this
 have hJ : WJ f R W n K ⟨fs.sls, fs.todo.take (fs.todo.length - 1), tA, tc⟩ (fun k' a' => k' = k ∧ a' = a ∧ ∀ q ∈ ([] : List Int), leO (famAt (famW fs.sls) q.toNat) (some (behindF R (f.code.getD k default) a))) := by
  refine ⟨⟨h.fok.len, h.fok.ok, h.fok.lenK⟩, h.fin, h.ab, h.fst, fun t q => h.todo t (List.mem_of_mem_take q), fun k' a' hk' => ?_⟩
  rcases h.clo k' a' hk' with q | q | q
  ·rw [hsplit] at q
   rcases List.mem_append.1 q with q | q
   ·exact .inl q
   ·rw [List.mem_singleton] at q
    subst q
    refine .inr (.inr ⟨rfl, ?_, fun _ hq => (by cases hq)⟩)
    have e : some a' = some a := hk'.symm.trans hX
    exact Option.some.inj e
  ·exact .inr (.inl q)
  ·exact absurd q id
 obtain ⟨p1, p2, p3⟩ := WJ.tos hn hR hk hal hha (fun l hl => by have := next_in hf (by omega) l hl; omega) _ [] (fun _ hl => hl) hJ ht
 have htl : (fs.todo.take (fs.todo.length - 1)).length = fs.todo.length - 1 := by rw [List.length_take]; omega
 refine ⟨⟨p1.fok, p1.fin, p1.ab, p1.fst, p1.todo, fun k' a' hk' => ?_⟩, ?_, ?_⟩
 ·rcases p1.clo k' a' hk' with q | q | ⟨q1, q2, q3⟩
  ·exact .inl q
  ·exact .inr (.inl q)
  subst q1; subst q2
  exact .inr (.inl ⟨hok, fun l hl => q3 l (by simpa using hl)⟩)
 ·unfold meas at p2 ⊢
  simp only [htl] at p2
  omega
 simp only [htl] at p3
 omega
theorem WI.done {f : Fn} {W n K : Nat} {fs : FS} (hn : n = f.code.length) (h : WI f f.regs.toNat W n K fs) (h0 : fs.todo.length = 0) : SF f W := by
 have hnil : fs.todo = [] := List.eq_nil_of_length_eq_zero h0
 have hc : ∀ k a, famAt (famW fs.sls) k = some a → closed f f.regs.toNat (famW fs.sls) k a := fun k a hk => by
  rcases h.clo k a hk with q | q | q
  ·rw [hnil] at q; cases q
  ·exact q
  ·exact absurd q id
 exact ⟨famW fs.sls, ⟨h.fin.len, h.fin.bits, h.fst, fun k a _ ha l hl => (hc k a ha).2 l hl⟩, fun k a _ ha => (hc k a ha).1⟩
/-! ### as it begins -/
def firstW (K j : Nat) : List Wd64 := (List.range j).foldl putW (List.replicate K 0#64)
theorem firstW_succ (K j : Nat) : firstW K (j + 1) = putW (firstW K j) j := by
 unfold firstW
 rw [List.range_succ, List.foldl_append]
 rfl
theorem firstW_len (K : Nat) : ∀ j, (firstW K j).length = K
 | 0 => by unfold firstW; simp
 | j + 1 => by rw [firstW_succ, putW_len, firstW_len K j]
theorem firstW_abs {K R : Nat} : ∀ {j : Nat}, j ≤ 64 * K → absB (firstW K j) = firstF R (64 * K) j
 | 0, _ => by unfold firstW firstF; rw [show (List.range 0).foldl putW (List.replicate K 0#64) = List.replicate K 0#64 from rfl, abs_zero]; simp
 | j + 1, h => by
  rw [firstW_succ, abs_put (by rw [firstW_len]; omega), firstW_abs (R := R) (by omega)]
  unfold firstF
  rw [List.set_append_right _ _ (by simp)]
  simp only [List.length_replicate, Nat.sub_self]
  rw [show 64 * K - j = (64 * K - (j + 1)) + 1 by omega, List.replicate_succ, List.set_cons_zero, List.replicate_succ', List.append_assoc]
  rfl
def fs0 (n : Nat) : FS := ⟨List.replicate n ⟨none, 0, none⟩, [], none, 0⟩
theorem fs0_ok (n K : Nat) : FOk n K (fs0 n) := ⟨by unfold fs0; simp, fun s hs => by rw [(List.mem_replicate.1 hs).2]; rfl, fun s hs ws e => by rw [(List.mem_replicate.1 hs).2] at e; cases e⟩
theorem fs0_at (n k : Nat) : famAt (famW (fs0 n).sls) k = none := by
 unfold fs0 famW famAt
 rw [List.map_replicate, List.getD_eq_getElem?_getD, List.getElem?_replicate]
 split <;> rfl
theorem fs0_pot (n W : Nat) : pot W (famW (fs0 n).sls) = n * (W + 1) := by
 unfold fs0 famW pot
 rw [List.map_replicate, List.map_replicate]
 simp [potO]
theorem WI.start {f : Fn} {R n K : Nat} {fs : FS} (hn : n = f.code.length) (h0 : 0 < n) (hP : f.params.toNat ≤ 64 * K) (h : ToR n K (fs0 n) 0 (firstF R (64 * K) f.params.toNat) fs) : WI f R (64 * K) n K fs ∧ meas (64 * K) fs ≤ n * (64 * K + 1) := by
 have hfl : (firstF R (64 * K) f.params.toNat).length = 64 * K := first_len hP
 have hlen : (famW (fs0 n).sls).length = n := by unfold famW fs0; simp
 have hat : ∀ k, famAt (famW fs.sls) k = if k = 0 then some (firstF R (64 * K) f.params.toNat) else none := fun k => by
  rw [h.fam]
  unfold meetX
  rw [famAt_set (by omega), fs0_at]
  split
  ·rfl
  ·exact fs0_at n k
 have hchg : chg (famW (fs0 n).sls) 0 (firstF R (64 * K) f.params.toNat) = true := by unfold chg; rw [fs0_at]
 have htd : fs.todo = [0] := by rw [h.todo, if_pos hchg]; rfl
 refine ⟨⟨h.ok, ⟨by rw [h.fam]; unfold meetX; rw [List.length_set, hlen, hn], fun k a ha => ?_⟩, fun Y hY k => ?_, ⟨_, by rw [hat, if_pos rfl], leB.refl _⟩, fun t q => ?_, fun k a ha => ?_⟩, ?_⟩
 ·rw [hat] at ha
  split at ha
  ·simp only [Option.some.injEq] at ha
   rw [← ha]; exact hfl
  cases ha
 ·rw [hat]
  split
  ·rename_i hk
   subst hk
   obtain ⟨a, h1, h2⟩ := hY.first
   rw [h1]; exact h2
  cases famAt Y k <;> trivial
 ·rw [htd, List.mem_singleton] at q
  subst q
  exact ⟨h0, by rw [hat, if_pos rfl]; rfl⟩
 ·rw [hat] at ha
  split at ha
  ·rename_i hk; left; rw [htd, hk]; simp
  cases ha
 unfold meas
 have := pot_set (W := 64 * K) (X := famW (fs0 n).sls) (k := 0) (v := some (firstF R (64 * K) f.params.toNat)) (by omega)
 have e : famW fs.sls = (famW (fs0 n).sls).set 0 (some (firstF R (64 * K) f.params.toNat)) := by
  rw [h.fam]
  unfold meetX
  rw [fs0_at]
 rw [e, htd]
 rw [fs0_at, fs0_pot] at this
 have hc := count_le (firstF R (64 * K) f.params.toNat)
 simp only [potO] at this
 simp only [List.length_cons, List.length_nil]
 omega
theorem td_at {l : List Nat} {j : Nat} (h : j < l.length) : (l.map zn)[j * 1 + 0]? = some (zn (l.getD j default)) := by
 rw [Nat.mul_one, Nat.add_zero, List.getElem?_map, List.getElem?_eq_getElem h, gd h]; rfl
theorem perm13 {α : Type} {a b c : α} {l : List α} : (a :: b :: c :: l).Perm (c :: b :: a :: l) := List.Perm.trans (List.Perm.swap _ _ _) (List.Perm.trans (List.Perm.cons _ (List.Perm.swap _ _ _)) (List.Perm.swap _ _ _))
section
variable {cx : Cx} {env : Env} {S : St} {code : Code} {Q : Exit → Env → St → Prop}
theorem AW.shrink {n c k : Nat} {A : Option Addr} {e : TypeId} {cs : List T} (i m : Nat) (hi : S[i]? = some (.row A n c e k cs)) (hm : m ≤ n) (h : AW cx code Q env (S.set i (.row A m c e k (cs.take (m * k))))) : AW cx code Q env S := fun a w hs => by
 obtain ⟨us, ⟨r1, r2, r3, r4⟩, hV⟩ := hs.row hi
 have hmk : m * k ≤ n * k := Nat.mul_le_mul_right k hm
 refine h a w (hs.setEnt hi rfl (fun _ _ _ => rfl) rfl rfl rfl rfl ⟨us.take (m * k), ⟨by rw [List.length_take, r1]; omega, r2, by omega, ?_⟩, hV.take _⟩)
 rcases r4 with ⟨h1, h2, h3⟩ | ⟨g, cur, fr, h1, h2, h3, h4, h5⟩
 ·exact .inl ⟨h1, by omega, h3⟩
 ·refine .inr ⟨g, cur, fr, h1, h2, h3, h4, ?_⟩
  rw [← h5, List.take_take, Nat.min_eq_left hmk]
end
end Go.Proofs.Ytlfklgganokgdaa

namespace Go.Proofs.Ytlfklgganokgdaa
open Go Go.RowKit

set_option maxHeartbeats 16000000 in
theorem strict24_ (p : Prog) (f : Fn) (hp : FnIn f) (hf : FnOk p f) (R K : Nat) (hR : f.regs.toNat = R) (hKd : (f.regs.toNat + f.slots.toNat + 63) / 64 = K) :
    ACalls Try.prog 24 [.agg (fnCells f)] [] (fun t S => ∃ b, t = bv b ∧ (b = true ↔ StrictF f)) := by
 have hf0 := hf.par0
 have hf1 := hf.par1
 have hf2 := hf.par2
 have hf3 := hf.regs
 have hf4 := hf.slot0
 have hf5 := hf.slot1
 have hf6 := hf.code
 have hfc := hp.code
 have hRi : f.regs = (R : Int) := by omega
 have hK2 : K ≤ 17409 := by omega
 have hKW : f.regs.toNat + f.slots.toNat ≤ 64 * K := by omega
 have hst := strictF_at hf hKW
 refine ACalls.intro Try.func24 rfl Try.ntmps24 nB rfl fun X w0 => ?_
 refine rs ?_
 refine AWL.boxOp rfl rfl (B rfl) rfl (E rfl rfl) rfl (fun b1 => ?_)
 refine ya ?_
 refine AW.rseqP rfl ?_
 refine T1 (i := 2) rfl (freeField rfl fo_51_4 (E rfl rfl)) ?_
 refine AWP.node (ι := Nat × Option Addr × Nat) 0 (bA 9 511) (fun ⟨b10, A14, b16⟩ => [(3, true, pv b16), (1, true, pv b1)]) (fun ⟨b10, A14, b16⟩ => (.map b10 [] :: .row A14 f.code.length f.code.length 101 1 (List.replicate f.code.length (([Value.slice none 0 0]).map T.v)).flatten :: .box b16 100 (fnCells f ++ [.v (.map (some b10)), .v (.slice A14 f.code.length f.code.length), .v (.slice none 0 0)]) :: .box b1 51 (fnCells f) :: [])) (fun ⟨b10, A14, b16⟩ => True) ?_ ?_
 ·rintro ⟨b10, A14, b16⟩ _
  refine AWP.done (by kernel_rfl) ?_
  refine AW.rowNil 3 1 ?_
  refine AW.perm (S' := [.map b10 (lmT (whT f.code 0)), .box b1 51 (fnCells f), .box b16 100 (fnCells f ++ [.v (.map (some b10)), .v (.slice A14 f.code.length f.code.length), .v (.slice none 0 0)]), .row A14 f.code.length f.code.length 101 1 (List.replicate f.code.length (([Value.slice none 0 0]).map T.v)).flatten, .row none 0 0 3 1 []]) (perm13.cons _) ?_
  refine AW.seq ?_
  refine rs (yf fo_51_4 ?_)
  refine yl ag_49 1 ?_
  refine Y1 (Yv.lenSl rfl so_49 (B rfl) eV len_code) ?_
  refine ym (nl ?_)
  refine AW.block ?_
  refine AW.loop (fun (j : Nat) => [(1, true, pv b1), (3, true, pv b16), (18, true, .sl 11 (f.code.flatMap insCells)), (19, true, .v (.int .i64 (f.code.length : Int))), (20, true, .v (.int .i64 (j : Int)))]) (fun (j : Nat) => [.map b10 (lmT (whT f.code j)), .box b1 51 (fnCells f), .box b16 100 (fnCells f ++ [.v (.map (some b10)), .v (.slice A14 f.code.length f.code.length), .v (.slice none 0 0)]), .row A14 f.code.length f.code.length 101 1 (List.replicate f.code.length (([Value.slice none 0 0]).map T.v)).flatten, .row none 0 0 3 1 []]) (fun (j : Nat) => j ≤ f.code.length) (fun (j : Nat) => f.code.length - j) 0 ?_ ?_ ?_ ?_
  ·exact Nat.zero_le _
  ·exact (su (su (su (su (su sn)))))
  ·rfl
  intro j hinv
  refine rs (Y1 (Yv.lss rfl eV eV) (nl ?_))
  refine AW.seq ?_
  refine AW.cond rfl (fun h0t => ?_) (fun h0f => ?_)
  ·try replace h0t := odt h0t
   have hj : j < f.code.length := by omega
   refine AW.skip ?_
   refine AW.seq ?_
   refine AW.block ?_
   refine rs (ym ?_)
   refine Y1 (Yv.indexSl rfl ss_49 (B rfl) eV eV (fun hg => ⟨rfl, (by first | omega | (simp only [len_code, len_funs, len_args, len_data, len_words]; omega))⟩)) ?_
   refine Y1 (Yv.loadRpA rfl ag_58 eV (fun hg => ins_cells (by omega))) ?_
   refine AWL.allocOp rfl rfl (B rfl) rfl zc_58 (fun b5 => ?_)
   refine Y1 (Yv.assign rfl eV) ?_
   refine AWL.storeBox (i := 5) rfl rfl rfl ag_58 rfl (E rfl rfl) (E rfl rfl) rfl rfl nB (nl ?_)
   refine rs (yf fo_58_0 ?_)
   refine yl ag_3 5 ?_
   refine Y1 (Yv.eql rfl eV eV) (nl ?_)
   refine AW.cond rfl (fun h1t => ?_) (fun h1f => ?_)
   ·try replace h1t := odt h1t
    refine AW.regionP rfl ?_
    refine AWP.phase [true, true, true, true, true, true, true] 1 rfl (by kernel_rfl) (by kernel_rfl) ?_
    refine qm ?_
    refine Q1 (Yv.nilChk rfl eV) ?_
    refine qf fo_100_1 ?_
    refine ql ag_53 2 ?_
    refine qf fo_58_4 ?_
    refine ql ag_3 5 ?_
    refine qm ?_
    refine AWQ.nil ?_
    refine p1 7 ?_
    refine AWL.mapUpd (k := .i _ _) (i := 0) rfl rfl (.inl rfl) mp_53 rfl (E rfl rfl) (E rfl rfl) (E rfl rfl) rfl rfl (lm_good _ _ rfl) (nl ?_)
    refine AWP.done (by kernel_rfl) ?_
    refine AW.dropAt 5 ?_
    refine AW.region ?_
    refine Y1 (Yv.addN_i64 rfl eV eV (fun hg => by omega)) ?_
    refine ym (nl ?_)
    refine ⟨j + 1, by omega, by omega, (su (su (su (su (Sub.cons rfl (by simp) Sub.nil))))), ?_⟩
    rw [wh_succ hj, whStep, if_pos h1t, ← put_lm]
    rfl
   try replace h1f := odf h1f
   refine AW.skip ?_
   refine AW.dropAt 5 ?_
   refine AW.region ?_
   refine Y1 (Yv.addN_i64 rfl eV eV (fun hg => by omega)) ?_
   refine ym (nl ?_)
   refine ⟨j + 1, by omega, by omega, (su (su (su (su (Sub.cons rfl (by simp) Sub.nil))))), ?_⟩
   rw [wh_succ hj, whStep, if_neg h1f]
   rfl
  try replace h0f := odf h0f
  obtain rfl : j = f.code.length := by omega
  rw [wh_all (Nat.le_refl _)]
  refine AW.exit ?_
  refine rs (yf fo_51_2 ?_)
  refine yl ag_3 1 ?_
  refine yf fo_51_3 ?_
  refine yl ag_3 1 ?_
  refine Y1 (Yv.addN_i64 rfl eV eV (fun hg => by omega)) ?_
  refine Y1 (Yv.addN_i64 rfl eV eV (fun hg => by omega)) ?_
  refine Y1 (Yv.eqT (t' := .v (.int .i64 (K : Int))) (Yv.quoN_i64 rfl eV eV (fun hg => by omega)) (by rw [show (f.regs + f.slots + 63) / 64 = (K : Int) by omega])) ?_
  refine AWL.makeRowS (n := K) (c := K) rfl rfl (B rfl) rfl el_101 (E rfl rfl) (E rfl rfl) (Nat.le_refl _) (by omega) (by unfold maxLen; omega) (fun A43 hA43 => ?_)
  refine ya ?_
  refine AW.perm (List.perm_append_singleton _ _).symm ?_
  refine AW.eqS (S' := [.row A43 K K 39 1 ((firstW K 0).map zw), .map b10 (lmT (whL f.code)), .box b1 51 (fnCells f), .box b16 100 (fnCells f ++ [.v (.map (some b10)), .v (.slice A14 f.code.length f.code.length), .v (.slice none 0 0)]), .row A14 f.code.length f.code.length 101 1 (List.replicate f.code.length (([Value.slice none 0 0]).map T.v)).flatten, .row none 0 0 3 1 []]) (by rw [mk_zero]; rfl) ?_
  refine AW.seq ?_
  refine rs (yf fo_51_1 ?_)
  refine yl ag_3 2 ?_
  refine ym (nl ?_)
  refine AW.block ?_
  refine AW.loop (fun (j : Nat) => [(3, true, pv b16), (6, true, .v (.slice A43 K K)), (45, true, zi f.params), (46, true, .v (.int .i64 (j : Int)))]) (fun (j : Nat) => [.row A43 K K 39 1 ((firstW K j).map zw), .map b10 (lmT (whL f.code)), .box b1 51 (fnCells f), .box b16 100 (fnCells f ++ [.v (.map (some b10)), .v (.slice A14 f.code.length f.code.length), .v (.slice none 0 0)]), .row A14 f.code.length f.code.length 101 1 (List.replicate f.code.length (([Value.slice none 0 0]).map T.v)).flatten, .row none 0 0 3 1 []]) (fun (j : Nat) => j ≤ f.params.toNat) (fun (j : Nat) => f.params.toNat - j) 0 ?_ ?_ ?_ ?_
  ·exact Nat.zero_le _
  ·exact (su (su (su (su sn))))
  ·rfl
  intro j hinv
  refine rs (Y1 (Yv.lss rfl eV eV) (nl ?_))
  refine AW.seq ?_
  refine AW.cond rfl (fun h2t => ?_) (fun h2f => ?_)
  ·try replace h2t := odt h2t
   refine AW.skip ?_
   refine AW.seq ?_
   refine AW.block ?_
   refine rs (ym ?_)
   refine ya ?_
   refine AW.region ?_
   refine ym ?_
   refine ym ?_
   refine C1 rfl ce_37 (E rfl rfl) (evsC (E rfl rfl) (evsC (E rfl rfl) evs0)) (S1 := [.row A43 K K 39 1 ((firstW K j).map zw)]) (S2 := _) rfl (put37 A43 K K (firstW K j) j (firstW_len K j) (by omega) (by omega)) ?_
   rintro t51 S51 ⟨rfl, rfl⟩
   refine nl ?_
   refine AW.region ?_
   refine Y1 (Yv.addN_i64 rfl eV eV (fun hg => by omega)) ?_
   refine ym (nl ?_)
   refine ⟨j + 1, by omega, by omega, (su (su (su (Sub.cons rfl (by simp) Sub.nil)))), ?_⟩
   rw [firstW_succ]
   rfl
  try replace h2f := odf h2f
  obtain rfl : j = f.params.toNat := by omega
  refine AW.exit ?_
  refine AW.rowNils 39 1 f.code.length ?_
  refine AW.perm (S' := .map b10 (lmT (whL f.code)) :: .box b1 51 (fnCells f) :: .row A43 K K 39 1 ((firstW K f.params.toNat).map zw) :: FSt b16 f b10 A14 f.code.length (fs0 f.code.length)) ?_ ?_
  ·have e : (FSt b16 f b10 A14 f.code.length (fs0 f.code.length) : St) = .box b16 100 (fnCells f ++ [.v (.map (some b10)), .v (.slice A14 f.code.length f.code.length), .v (.slice none 0 0)]) :: .row A14 f.code.length f.code.length 101 1 (List.replicate f.code.length (([Value.slice none 0 0]).map T.v)).flatten :: .row none 0 0 3 1 [] :: List.replicate f.code.length (.row none 0 0 39 1 []) := by
    unfold FSt fs0 flCells
    dsimp only
    rw [List.map_replicate, List.map_replicate, mk_nil]
    rfl
   rw [e]
   exact List.perm_middle (l₁ := ([.map b10 (lmT (whL f.code)), .box b1 51 (fnCells f)] : St))
  refine rs (ym ?_)
  refine ym ?_
  refine AWL.callE rfl rfl (B rfl) rfl ce_38 (E rfl rfl) (evsC (E rfl rfl) (evsC (E rfl rfl) (evsC (E rfl rfl) evs0))) (F1 := [.map b10 (lmT (whL f.code)), .box b1 51 (fnCells f)]) (S1 := (.row A43 K K 39 1 ((firstW K f.params.toNat).map zw) :: FSt b16 f b10 A14 f.code.length (fs0 f.code.length))) rfl (to38 b16 f b10 A14 f.code.length K (fs0 f.code.length) 0 A43 K (firstW K f.params.toNat) (fs0_ok _ _) hf6 hfc (by omega) (firstW_len K _) (Nat.zero_le _)) ?_
  rintro t55 S55 ⟨rfl, fs1, hto, rfl⟩
  refine nl ?_
  refine AW.dropAt 1 ?_
  refine AW.dropAt 1 ?_
  rw [firstW_abs (R := R) (by omega)] at hto
  have hw1 := WI.start (R := R) rfl hf6 (by omega) hto
  have hprod : f.code.length * (64 * K + 1) ≤ 1168299261952 := by
   have h1 : f.code.length * (64 * K + 1) ≤ 1048576 * (64 * 17409 + 1) := Nat.mul_le_mul hfc (by omega)
   omega
  refine AW.seq ?_
  refine AW.block ?_
  refine AW.loop (fun (fs : FS) => [(3, true, pv b16)]) (fun (fs : FS) => (.map b10 (lmT (whL f.code)) :: FSt b16 f b10 A14 f.code.length fs)) (fun (fs : FS) => WI f R (64 * K) f.code.length K fs ∧ meas (64 * K) fs ≤ f.code.length * (64 * K + 1)) (fun (fs : FS) => 2 * pot (64 * K) (famW fs.sls) + fs.todo.length) fs1 ?_ ?_ ?_ ?_
  ·exact hw1
  ·exact (su sn)
  ·rfl
  intro fs hinv
  obtain ⟨hwi, hms⟩ := hinv
  have htl : fs.todo.length ≤ meas (64 * K) fs := Nat.le_add_left _ _
  refine AW.seq ?_
  refine rs (ym ?_)
  refine Y1 (Yv.nilChk rfl eV) ?_
  refine yf fo_100_3 ?_
  refine yl ag_47 1 ?_
  refine Y1 (Yv.lenV rfl so_47 eV) ?_
  refine Y1 (Yv.gtr rfl eV eV) (nl ?_)
  refine AW.cond rfl (fun h3t => ?_) (fun h3f => ?_)
  ·try replace h3t := odt h3t
   have htd0 : 0 < fs.todo.length := by omega
   have hkm := hwi.todo _ (getD_mem (l := fs.todo) (j := (fs.todo.length - 1)) (by omega))
   have hkn := hkm.1
   have hkl : (fs.todo.getD (fs.todo.length - 1) default) < fs.sls.length := by rw [hwi.fok.len]; exact hkn
   have hkv : (fs.sls.getD (fs.todo.getD (fs.todo.length - 1) default) default).v = some (fs.sls.getD (fs.todo.getD (fs.todo.length - 1) default) default).ws := by
    have h := hkm.2
    rw [fam_atW hkl] at h
    unfold Sw.ws
    cases hv : (fs.sls.getD (fs.todo.getD (fs.todo.length - 1) default) default).v with
    | none => rw [hv] at h; cases h
    | some x => rfl
   have hkX : famAt (famW fs.sls) (fs.todo.getD (fs.todo.length - 1) default) = some (absB (fs.sls.getD (fs.todo.getD (fs.todo.length - 1) default) default).ws) := by rw [fam_atW hkl, hkv]; rfl
   refine AW.skip ?_
   refine AW.block ?_
   refine AW.rseqQ rfl (by kernel_rfl) ?_
   refine qm ?_
   refine Q1 (Yv.nilChk rfl eV) ?_
   refine qf fo_100_3 ?_
   refine ql ag_47 1 ?_
   refine qm ?_
   refine Q1 (Yv.nilChk rfl eV) ?_
   refine qf fo_100_3 ?_
   refine ql ag_47 1 ?_
   refine Q1 (Yv.lenV rfl so_47 eV) ?_
   refine Q1 (Yv.subN_i64 rfl eV eV (fun hg => by omega)) ?_
   refine Q1 (Yv.indexRow (j := (fs.todo.length - 1)) rfl ss_47 (i := 3) rfl eV eV (fun hg => ⟨by omega, by omega⟩)) ?_
   refine Q1 (Yv.loadEp rfl ag_3 (i := 3) rfl eV (fun hg => td_at (by omega))) ?_
   refine Q1 (Yv.assign rfl eV) ?_
   refine AWQ.nil ?_
   refine AW.rowLe 3 rfl (fun htc => ?_)
   refine AW.rseqP rfl ?_
   refine AWP.phase [true, true, true, true, true, true, true, true, true, true, true, true, true, true] 1 rfl (by kernel_rfl) (by kernel_rfl) ?_
   refine qm ?_
   refine qm ?_
   refine Q1 (Yv.nilChk rfl eV) ?_
   refine qf fo_100_3 ?_
   refine ql ag_47 1 ?_
   refine qm ?_
   refine Q1 (Yv.nilChk rfl eV) ?_
   refine qf fo_100_3 ?_
   refine ql ag_47 1 ?_
   refine Q1 (Yv.lenV rfl so_47 eV) ?_
   refine Q1 (Yv.subN_i64 rfl eV eV (fun hg => by omega)) ?_
   refine Q1 (Yv.sliceRow0 (i := 3) (m := (fs.todo.length - 1)) rfl ss_47 rfl eV (Bound.some_ eV (fun hg => by omega)) (fun hg => by omega)) ?_
   refine Q1 (Yv.nilChk rfl eV) ?_
   refine qf fo_100_3 ?_
   refine AWQ.nil ?_
   refine p1 14 ?_
   refine AWL.storeBox (i := 1) rfl rfl rfl ag_47 rfl (E rfl rfl) (E rfl rfl) rfl rfl nB (nl ?_)
   refine AWP.done (by kernel_rfl) ?_
   refine AW.shrink 3 (fs.todo.length - 1) rfl (Nat.sub_le _ _) ?_
   refine AW.eqS (S' := .map b10 (lmT (whL f.code)) :: FSt b16 f b10 A14 f.code.length ⟨fs.sls, fs.todo.take (fs.todo.length - 1), fs.tA, fs.tc⟩) (by
    unfold FSt flCells
    dsimp only
    rw [List.map_take, List.length_take, Nat.min_eq_left (Nat.sub_le _ _), Nat.mul_one]
    rfl) ?_
   refine rs (ym ?_)
   refine ym ?_
   refine AWL.callAll rfl rfl (B rfl) rfl ce_39 (E rfl rfl) (evsC (E rfl rfl) (evsC (E rfl rfl) evs0)) (step39 p b16 f b10 A14 f.code.length K R ⟨fs.sls, fs.todo.take (fs.todo.length - 1), fs.tA, fs.tc⟩ (fs.todo.getD (fs.todo.length - 1) default) hp hf hRi ⟨hwi.fok.len, hwi.fok.ok, hwi.fok.lenK⟩ rfl hkn (by omega) hK2 hkv (by rw [List.length_take]; omega)) ?_
   rintro t90 S90 ⟨fs2, rfl, hts, rfl⟩
   refine Y1 (Yv.not rfl eV) (nl ?_)
   refine AW.cond rfl (fun h4t => ?_) (fun h4f => ?_)
   ·refine ra ?_
    refine AW.ret (retI (.tmp rfl .nil) ?_)
    refine ⟨false, rfl, ⟨fun h => (by cases h), fun h => ?_⟩⟩
    subst hR
    exact absurd (hst.1 h) (sf_not hwi.ab hkn hkX (by simpa using h4t))
   refine AW.skip ?_
   obtain ⟨g1, g2, g3⟩ := WI.round hf rfl (by omega) hwi htd0 hkX (by simpa using h4f) (hts (by simpa using h4f))
   exact ⟨fs2, ⟨g1, by omega⟩, g3, (su sn), rfl⟩
  try replace h3f := odf h3f
  have htd0 : fs.todo.length = 0 := by omega
  refine AW.exit ?_
  refine ra ?_
  refine AW.ret (retI (.tmp rfl .nil) ?_)
  subst hR
  exact ⟨true, rfl, ⟨fun _ => hst.2 (WI.done rfl hwi htd0), fun _ => rfl⟩⟩
 intro n17_
 refine AWP.node (ι := Nat × Option Addr × Nat) 1 (bA 9 255) (fun ⟨b10, A14, b16⟩ => [(16, true, pv b16), (1, true, pv b1)]) (fun ⟨b10, A14, b16⟩ => (.map b10 [] :: .row A14 f.code.length f.code.length 101 1 (List.replicate f.code.length (([Value.slice none 0 0]).map T.v)).flatten :: .box b16 100 (fnCells f ++ [.v (.map (some b10)), .v (.slice A14 f.code.length f.code.length), .v (.slice none 0 0)]) :: .box b1 51 (fnCells f) :: [])) (fun ⟨b10, A14, b16⟩ => True) ?_ ?_
 ·rintro ⟨b10, A14, b16⟩ _
  refine p1 8 ?_ 
  refine ya ?_
  exact to' (n17_ (b10, A14, b16) trivial) (su (su sn))
 intro n16_
 refine AWP.node (ι := Nat × Option Addr) 2 (bA 9 127) (fun ⟨b10, A14⟩ => [(15, true, .agg (fnCells f ++ [.v (.map (some b10)), .v (.slice A14 f.code.length f.code.length), .v (.slice none 0 0)])), (1, true, pv b1)]) (fun ⟨b10, A14⟩ => (.map b10 [] :: .row A14 f.code.length f.code.length 101 1 (List.replicate f.code.length (([Value.slice none 0 0]).map T.v)).flatten :: .box b1 51 (fnCells f) :: [])) (fun ⟨b10, A14⟩ => True) ?_ ?_
 ·rintro ⟨b10, A14⟩ _
  refine p1 7 ?_ 
  refine AWL.boxOp rfl rfl (B rfl) rfl (E rfl rfl) rfl (fun b16 => ?_)
  refine pi2 (nl ?_)
  exact to' (n16_ (b10, A14, b16) trivial) (su (su sn))
 intro n15_
 refine AWP.node (ι := Nat × Option Addr) 3 (bA 9 63) (fun ⟨b10, A14⟩ => [(9, true, .agg (fnCells f)), (10, true, .v (.map (some b10))), (14, true, .v (.slice A14 f.code.length f.code.length)), (1, true, pv b1)]) (fun ⟨b10, A14⟩ => (.map b10 [] :: .row A14 f.code.length f.code.length 101 1 (List.replicate f.code.length (([Value.slice none 0 0]).map T.v)).flatten :: .box b1 51 (fnCells f) :: [])) (fun ⟨b10, A14⟩ => True) ?_ ?_
 ·rintro ⟨b10, A14⟩ _
  refine p1 6 ?_ 
  refine Y1 (Yv.buildS rfl sh_100 (evpC eV (evpC eV (evpC eV evp0))) (fun _ => rfl)) (nl ?_)
  exact to' (n15_ (b10, A14) trivial) (su (su sn))
 intro n14_
 refine AWP.node (ι := Nat) 4 (bA 9 31) (fun b10 => [(9, true, .agg (fnCells f)), (10, true, .v (.map (some b10))), (13, true, .v (.int .i64 (f.code.length : Int))), (1, true, pv b1)]) (fun b10 => (.map b10 [] :: .box b1 51 (fnCells f) :: [])) (fun b10 => True) ?_ ?_
 ·rintro b10 _
  refine p1 5 ?_ 
  refine AWL.makeRow (n := f.code.length) (c := f.code.length) rfl rfl (B rfl) rfl el_98 (E rfl rfl) (E rfl rfl) (Nat.le_refl _) (by omega) (by unfold maxLen; omega) (fun A14 => ?_)
  refine pi1 (nl ?_)
  exact to' (n14_ (b10, A14) trivial) (su (su (su (su sn))))
 intro n13_
 refine AWP.node (ι := Option Addr) 4 (bA 9 61) (fun A14 => [(9, true, .agg (fnCells f)), (14, true, .v (.slice A14 f.code.length f.code.length)), (1, true, pv b1)]) (fun A14 => (.row A14 f.code.length f.code.length 101 1 (List.replicate f.code.length (([Value.slice none 0 0]).map T.v)).flatten :: .box b1 51 (fnCells f) :: [])) (fun A14 => True) ?_ ?_
 ·rintro A14 _
  refine p1 1 ?_ 
  refine AWL.makeMapOp rfl rfl (B rfl) rfl (fun b10 => ?_)
  refine pi0 (nl ?_)
  exact to' (n14_ (b10, A14) trivial) (su (su (su (su sn))))
 intro n10_
 refine AWP.node (ι := Nat × Option Addr) 4 (bA 9 62) (fun ⟨b10, A14⟩ => [(10, true, .v (.map (some b10))), (14, true, .v (.slice A14 f.code.length f.code.length)), (1, true, pv b1)]) (fun ⟨b10, A14⟩ => (.map b10 [] :: .row A14 f.code.length f.code.length 101 1 (List.replicate f.code.length (([Value.slice none 0 0]).map T.v)).flatten :: .box b1 51 (fnCells f) :: [])) (fun ⟨b10, A14⟩ => True) ?_ ?_
 ·rintro ⟨b10, A14⟩ _
  refine p1 0 ?_ 
  refine Y1 (Yv.loadBoxA rfl ag_51 (i := 2) rfl eV rfl rfl) (nl ?_)
  exact to' (n14_ (b10, A14) trivial) (su (su (su (su sn))))
 intro n6_
 refine AWP.node (ι := Nat) 5 (bA 9 15) (fun b10 => [(9, true, .agg (fnCells f)), (10, true, .v (.map (some b10))), (12, true, .sl 11 (f.code.flatMap insCells)), (1, true, pv b1)]) (fun b10 => (.map b10 [] :: .box b1 51 (fnCells f) :: [])) (fun b10 => True) ?_ ?_
 ·rintro b10 _
  refine p1 4 ?_ 
  refine Y1 (Yv.lenSl rfl so_49 (B rfl) eV len_code) (nl ?_)
  exact to' (n13_ b10 trivial) (su (su (su (su sn))))
 intro n12_
 refine AWP.node (ι := Unit) 5 (bA 9 29) (fun _ => [(9, true, .agg (fnCells f)), (13, true, .v (.int .i64 (f.code.length : Int))), (1, true, pv b1)]) (fun _ => (.box b1 51 (fnCells f) :: [])) (fun _ => True) ?_ ?_
 ·rintro _ _
  refine AWP.two (i := 1) (j := 5) (by kernel_rfl) rfl rfl ?_ ?_ 
  ·refine AWL.makeMapOp rfl rfl (B rfl) rfl (fun b10 => ?_)
   refine pi0 (nl ?_)
   exact to' (n13_ b10 trivial) (su (su (su (su sn))))
  refine AWL.makeRow (n := f.code.length) (c := f.code.length) rfl rfl (B rfl) rfl el_98 (E rfl rfl) (E rfl rfl) (Nat.le_refl _) (by omega) (by unfold maxLen; omega) (fun A14 => ?_)
  refine pi0 (nl ?_)
  exact to' (n10_ A14 trivial) (su (su (su sn)))
 intro n9_
 refine AWP.node (ι := Nat) 5 (bA 9 30) (fun b10 => [(10, true, .v (.map (some b10))), (13, true, .v (.int .i64 (f.code.length : Int))), (1, true, pv b1)]) (fun b10 => (.map b10 [] :: .box b1 51 (fnCells f) :: [])) (fun b10 => True) ?_ ?_
 ·rintro b10 _
  refine AWP.two (i := 0) (j := 5) (by kernel_rfl) rfl rfl ?_ ?_ 
  ·refine Y1 (Yv.loadBoxA rfl ag_51 (i := 1) rfl eV rfl rfl) (nl ?_)
   exact to' (n13_ b10 trivial) (su (su (su (su sn))))
  refine AWL.makeRow (n := f.code.length) (c := f.code.length) rfl rfl (B rfl) rfl el_98 (E rfl rfl) (E rfl rfl) (Nat.le_refl _) (by omega) (by unfold maxLen; omega) (fun A14 => ?_)
  refine pi1 (nl ?_)
  exact to' (n6_ (b10, A14) trivial) (su (su (su sn)))
 intro n5_
 refine AWP.node (ι := Option Addr) 5 (bA 9 60) (fun A14 => [(14, true, .v (.slice A14 f.code.length f.code.length)), (1, true, pv b1)]) (fun A14 => (.row A14 f.code.length f.code.length 101 1 (List.replicate f.code.length (([Value.slice none 0 0]).map T.v)).flatten :: .box b1 51 (fnCells f) :: [])) (fun A14 => True) ?_ ?_
 ·rintro A14 _
  refine AWP.two (i := 0) (j := 1) (by kernel_rfl) rfl rfl ?_ ?_ 
  ·refine Y1 (Yv.loadBoxA rfl ag_51 (i := 1) rfl eV rfl rfl) (nl ?_)
   exact to' (n10_ A14 trivial) (su (su (su sn)))
  refine AWL.makeMapOp rfl rfl (B rfl) rfl (fun b10 => ?_)
  refine pi0 (nl ?_)
  exact to' (n6_ (b10, A14) trivial) (su (su (su sn)))
 intro n2_
 refine AWP.node (ι := Nat) 6 (bA 9 7) (fun b10 => [(9, true, .agg (fnCells f)), (10, true, .v (.map (some b10))), (11, true, .v (.pointer (some ⟨b1, 0 + 4, none⟩))), (1, true, pv b1)]) (fun b10 => (.map b10 [] :: .box b1 51 (fnCells f) :: [])) (fun b10 => True) ?_ ?_
 ·rintro b10 _
  refine p1 3 ?_ 
  refine yl ag_49 1 (nl ?_)
  exact to' (n12_ b10 trivial) (su (su (su (su sn))))
 intro n11_
 refine AWP.node (ι := Unit) 6 (bA 9 13) (fun _ => [(9, true, .agg (fnCells f)), (12, true, .sl 11 (f.code.flatMap insCells)), (1, true, pv b1)]) (fun _ => (.box b1 51 (fnCells f) :: [])) (fun _ => True) ?_ ?_
 ·rintro _ _
  refine AWP.two (i := 1) (j := 4) (by kernel_rfl) rfl rfl ?_ ?_ 
  ·refine AWL.makeMapOp rfl rfl (B rfl) rfl (fun b10 => ?_)
   refine pi0 (nl ?_)
   exact to' (n12_ b10 trivial) (su (su (su (su sn))))
  refine Y1 (Yv.lenSl rfl so_49 (B rfl) eV len_code) (nl ?_)
  exact to' (n9_ () trivial) (su (su (su sn)))
 intro n8_
 refine AWP.node (ι := Nat) 6 (bA 9 14) (fun b10 => [(10, true, .v (.map (some b10))), (12, true, .sl 11 (f.code.flatMap insCells)), (1, true, pv b1)]) (fun b10 => (.map b10 [] :: .box b1 51 (fnCells f) :: [])) (fun b10 => True) ?_ ?_
 ·rintro b10 _
  refine AWP.two (i := 0) (j := 4) (by kernel_rfl) rfl rfl ?_ ?_ 
  ·refine Y1 (Yv.loadBoxA rfl ag_51 (i := 1) rfl eV rfl rfl) (nl ?_)
   exact to' (n12_ b10 trivial) (su (su (su (su sn))))
  refine Y1 (Yv.lenSl rfl so_49 (B rfl) eV len_code) (nl ?_)
  exact to' (n5_ b10 trivial) (su (su (su sn)))
 intro n4_
 refine AWP.node (ι := Unit) 6 (bA 9 28) (fun _ => [(13, true, .v (.int .i64 (f.code.length : Int))), (1, true, pv b1)]) (fun _ => (.box b1 51 (fnCells f) :: [])) (fun _ => True) ?_ ?_
 ·rintro _ _
  refine AWP.three (i := 0) (j := 1) (k := 5) (by kernel_rfl) rfl rfl rfl ?_ ?_ ?_ 
  ·refine Y1 (Yv.loadBoxA rfl ag_51 (i := 0) rfl eV rfl rfl) (nl ?_)
   exact to' (n9_ () trivial) (su (su (su sn)))
  ·refine AWL.makeMapOp rfl rfl (B rfl) rfl (fun b10 => ?_)
   refine pi0 (nl ?_)
   exact to' (n5_ b10 trivial) (su (su (su sn)))
  refine AWL.makeRow (n := f.code.length) (c := f.code.length) rfl rfl (B rfl) rfl el_98 (E rfl rfl) (E rfl rfl) (Nat.le_refl _) (by omega) (by unfold maxLen; omega) (fun A14 => ?_)
  refine pi0 (nl ?_)
  exact to' (n2_ A14 trivial) (su (su sn))
 intro n1_
 refine AWP.node (ι := Unit) 7 (bA 9 5) (fun _ => [(9, true, .agg (fnCells f)), (11, true, .v (.pointer (some ⟨b1, 0 + 4, none⟩))), (1, true, pv b1)]) (fun _ => (.box b1 51 (fnCells f) :: [])) (fun _ => True) ?_ ?_
 ·rintro _ _
  refine AWP.two (i := 1) (j := 3) (by kernel_rfl) rfl rfl ?_ ?_ 
  ·refine AWL.makeMapOp rfl rfl (B rfl) rfl (fun b10 => ?_)
   refine pi0 (nl ?_)
   exact to' (n11_ b10 trivial) (su (su (su (su sn))))
  refine yl ag_49 0 (nl ?_)
  exact to' (n8_ () trivial) (su (su (su sn)))
 intro n7_
 refine AWP.node (ι := Nat) 7 (bA 9 6) (fun b10 => [(10, true, .v (.map (some b10))), (11, true, .v (.pointer (some ⟨b1, 0 + 4, none⟩))), (1, true, pv b1)]) (fun b10 => (.map b10 [] :: .box b1 51 (fnCells f) :: [])) (fun b10 => True) ?_ ?_
 ·rintro b10 _
  refine AWP.two (i := 0) (j := 3) (by kernel_rfl) rfl rfl ?_ ?_ 
  ·refine Y1 (Yv.loadBoxA rfl ag_51 (i := 1) rfl eV rfl rfl) (nl ?_)
   exact to' (n11_ b10 trivial) (su (su (su (su sn))))
  refine yl ag_49 1 (nl ?_)
  exact to' (n4_ b10 trivial) (su (su (su sn)))
 intro n3_
 refine AWP.node (ι := Unit) 7 (bA 9 12) (fun _ => [(12, true, .sl 11 (f.code.flatMap insCells)), (1, true, pv b1)]) (fun _ => (.box b1 51 (fnCells f) :: [])) (fun _ => True) ?_ ?_
 ·rintro _ _
  refine AWP.three (i := 0) (j := 1) (k := 4) (by kernel_rfl) rfl rfl rfl ?_ ?_ ?_ 
  ·refine Y1 (Yv.loadBoxA rfl ag_51 (i := 0) rfl eV rfl rfl) (nl ?_)
   exact to' (n8_ () trivial) (su (su (su sn)))
  ·refine AWL.makeMapOp rfl rfl (B rfl) rfl (fun b10 => ?_)
   refine pi0 (nl ?_)
   exact to' (n4_ b10 trivial) (su (su (su sn)))
  refine Y1 (Yv.lenSl rfl so_49 (B rfl) eV len_code) (nl ?_)
  exact to' (n1_ () trivial) (su (su sn))
 intro n0_
 refine AWP.three (i := 0) (j := 1) (k := 3) (by kernel_rfl) rfl rfl rfl ?_ ?_ ?_ 
 ·refine Y1 (Yv.loadBoxA rfl ag_51 (i := 0) rfl eV rfl rfl) (nl ?_)
  exact to' (n7_ () trivial) (su (su (su sn)))
 ·refine AWL.makeMapOp rfl rfl (B rfl) rfl (fun b10 => ?_)
  refine pi0 (nl ?_)
  exact to' (n3_ b10 trivial) (su (su (su sn)))
 refine yl ag_49 0 (nl ?_)
 exact to' (n0_ () trivial) (su (su sn))

theorem strict24 (p : Prog) (f : Fn) (hp : FnIn f) (hf : FnOk p f) : ACalls Try.prog 24 [.agg (fnCells f)] [] (fun t S => ∃ b, t = bv b ∧ (b = true ↔ StrictF f)) := strict24_ p f hp hf _ _ rfl rfl
set_option maxHeartbeats 1000000 in
theorem Strict9 (p : Prog) (hp : ProgIn p) :
    ACalls Try.prog 9 [.agg (progCells p)] [] (fun t S => ∃ b, t = bv b ∧ (b = true ↔ StrictP p)) := by
 have hpf := hp.funs
 have hce := check_eq p
 refine ACalls.intro Try.func9 rfl Try.ntmps9 nB rfl fun X w0 => ?_
 refine rs ?_
 refine AWL.boxOp rfl rfl (B rfl) rfl (E rfl rfl) rfl (fun b1 => ?_)
 refine ya ?_
 refine AW.seq ?_
 refine rs (Y1 (Yv.loadBoxA rfl ag_25 (i := 0) rfl eV rfl rfl) ?_)
 refine AWL.callP rfl rfl (B rfl) rfl ce_6 (E rfl rfl) (evsC (E rfl rfl) evs0) (Check6 p hp) (fun t S h => h) ?_
 refine Y1 (Yv.neq rfl eV eV) (nl ?_)
 refine AW.cond rfl (fun h0t => ?_) (fun h0f => ?_)
 ·have hne : ¬ checkR p = 0 := by rw [← hce]; simpa using h0t
  refine ra ?_
  refine AW.ret (retI (.tmp rfl .nil) ?_)
  exact ⟨false, rfl, ⟨fun h => (by cases h), fun h => absurd h.1 hne⟩⟩
 have he0 : checkR p = 0 := by rw [← hce]; simpa using h0f
 have hok := check_good he0
 refine AW.skip ?_
 refine AW.seq ?_
 refine rs (yf fo_25_0 ?_)
 refine yl ag_22 0 ?_
 refine Y1 (Yv.lenSl rfl so_22 (B rfl) eV len_funs) ?_
 refine ym (nl ?_)
 refine AW.block ?_
 refine AW.loop (fun (j : Nat) => [(9, true, .sl 5 (p.funs.flatMap fnCells)), (10, true, .v (.int .i64 (p.funs.length : Int))), (11, true, .v (.int .i64 (j : Int)))]) (fun (j : Nat) => [.box b1 25 (progCells p)]) (fun (j : Nat) => j ≤ p.funs.length ∧ ∀ q, q < j → StrictF (p.funs.getD q default)) (fun (j : Nat) => p.funs.length - j) 0 ?_ ?_ ?_ ?_
 ·exact ⟨Nat.zero_le _, fun q hq => absurd hq (Nat.not_lt_zero q)⟩
 ·exact (su (su (su sn)))
 ·rfl
 intro j hinv
 obtain ⟨hj, hst⟩ := hinv
 refine rs (Y1 (Yv.lss rfl eV eV) (nl ?_))
 refine AW.seq ?_
 refine AW.cond rfl (fun h1t => ?_) (fun h1f => ?_)
 ·try replace h1t := odt h1t
  have hj2 : j < p.funs.length := by omega
  refine AW.skip ?_
  refine AW.seq ?_
  refine AW.block ?_
  refine rs (Y1 (Yv.indexSl rfl ss_22 (B rfl) eV eV (fun hg => ⟨rfl, (by first | omega | (simp only [len_code, len_funs, len_args, len_data, len_words]; omega))⟩)) ?_)
  refine Y1 (Yv.loadRpA rfl ag_51 eV (fun hg => fn_cells (by omega))) ?_
  refine AWL.allocOp rfl rfl (B rfl) rfl zc_51 (fun b4 => ?_)
  refine AWL.storeBox (i := 1) rfl rfl rfl ag_51 rfl (E rfl rfl) (E rfl rfl) rfl rfl nB (nl ?_)
  refine rs (Y1 (Yv.loadBoxA rfl ag_51 (i := 1) rfl eV rfl rfl) ?_)
  refine AWL.callT rfl rfl (B rfl) rfl ce_24 (E rfl rfl) (evsC (E rfl rfl) evs0) (strict24 p (p.funs.getD j default) (hp.fn _ (getD_mem hj2)) (hok.fn _ (getD_mem hj2))) ?_
  rintro t16 S16 ⟨b5, rfl, hb5⟩
  refine Y1 (Yv.not rfl eV) (nl ?_)
  refine AW.cond rfl (fun h2t => ?_) (fun h2f => ?_)
  ·refine ra ?_
   refine AW.ret (retI (.tmp rfl .nil) ?_)
   exact ⟨false, rfl, ⟨fun h => (by cases h), fun h => absurd (hb5.2 (h.2 _ (getD_mem hj2))) (by simpa using h2t)⟩⟩
  refine AW.skip ?_
  refine AW.dropAt 1 ?_
  refine AW.region ?_
  refine Y1 (Yv.addN_i64 rfl eV eV (fun hg => by omega)) ?_
  refine ym (nl ?_)
  refine ⟨j + 1, ⟨by omega, fun q hq => ?_⟩, by omega, (su (su (Sub.cons rfl (by simp) Sub.nil))), rfl⟩
  rcases Nat.lt_or_ge q j with h | h
  ·exact hst q h
  obtain rfl : q = j := by omega
  exact hb5.1 (by simpa using h2f)
 try replace h1f := odf h1f
 refine AW.exit ?_
 refine ra ?_
 refine AW.ret (retI (.tmp rfl .nil) ?_)
 exact ⟨true, rfl, ⟨fun _ => ⟨he0, fun g hg => by
  obtain ⟨q, hq, rfl⟩ := List.mem_iff_getElem.1 hg
  rw [← gd hq]; exact hst q (by omega)⟩, fun _ => rfl⟩⟩

end Go.Proofs.Ytlfklgganokgdaa

namespace Go.Proofs.Ytlfklgganokgdaa
open Go Go.RowKit
section
variable {cx : Cx} {env : Env} {S : St} {o : Oper} {ops : Array Oper} {l : List Oper} {K : Env → St → Prop} {Q : Exit → Env → St → Prop}
theorem Sim.freezeRow {a : Act} {w : World} (hs : Sim cx env S a w) {i j p n c k n2 c2 k2 : Nat} {A A2 : Option Addr} {e e2 : TypeId} {cs bs : List T} (hi : S[i]? = some (.row A n c e k cs)) (hk : 0 < k) (hj : (S.eraseIdx i)[j]? = some (.row A2 n2 c2 e2 k2 bs)) (hp : bs[p]? = some (.v (.slice A n c))) :
    Sim cx env ((S.eraseIdx i).set j (.row A2 n2 c2 e2 k2 (bs.set p (.sl k cs)))) a w := by
 obtain ⟨h1, h2⟩ := hs.freeze hi hk
 obtain ⟨us, hh, hV⟩ := h1.row hj
 refine h1.setEnt hj rfl (fun _ _ _ => rfl) rfl rfl rfl rfl ⟨us, hh, ?_⟩
 obtain ⟨u, e1, e2, e3⟩ := hV.get hp
 obtain rfl := e2.v_inv
 have := hV.set p h2 e3
 have hu : us.set p (.slice A n c) = us := by
  apply List.ext_getElem?
  intro q
  rw [List.getElem?_set]
  split
  ·rename_i hq
   subst hq
   rw [e1]
   split
   ·rfl
   ·rename_i hn
    rw [List.getElem?_eq_none (by omega)] at e1
    cases e1
  ·rfl
 rwa [hu] at this
theorem AW.freezeRow {code : Code} {n c k n2 c2 k2 : Nat} {A A2 : Option Addr} {e e2 : TypeId} {cs bs : List T} (i j p : Nat) (hi : S[i]? = some (.row A n c e k cs)) (hk : 0 < k) (hj : (S.eraseIdx i)[j]? = some (.row A2 n2 c2 e2 k2 bs)) (hp : bs[p]? = some (.v (.slice A n c))) (h : AW cx code Q env ((S.eraseIdx i).set j (.row A2 n2 c2 e2 k2 (bs.set p (.sl k cs))))) : AW cx code Q env S := fun a w hs => h a w (hs.freezeRow hi hk hj hp)
end
/-! ### cells that a region does not write: their loads are taken first -/
def HeldCs (l : List (Nat × Nat × Value)) (w : World) : Prop := ∀ q ∈ l, w.cell? ⟨q.1, q.2.1, none⟩ = some q.2.2
def Pin (t : T) (u : Value) : Prop := ∀ w L v, VRep w L t v → v = u
theorem pinV {u : Value} : Pin (.v u) u := fun _ _ _ h => h.v_inv
theorem pinE {g n c off : Nat} : Pin (.ep (.slice (some ⟨g, 0, none⟩) n c) off) (.pointer (some ⟨g, off, none⟩)) := fun _ _ _ h => by
 cases h with
 | ep => rfl
def tellE (e : Ent) (q : Nat × Nat × Value) : Prop :=
 match e with
 | .box b _ cs => b = q.1 ∧ ∃ t, cs[q.2.1]? = some t ∧ Pin t q.2.2
 | .row A _ _ _ _ cs => A = some ⟨q.1, 0, none⟩ ∧ ∃ t, cs[q.2.1]? = some t ∧ Pin t q.2.2
 | _ => False
def TellsC (S : St) (l : List (Nat × Nat × Value)) : Prop := ∀ q ∈ l, ∃ e ∈ S, tellE e q
theorem tc0 {S : St} : TellsC S [] := fun _ h => by cases h
theorem tcB {S : St} {l : List (Nat × Nat × Value)} {b p : Nat} {ty : TypeId} {cs : List T} {t : T} {u : Value} (k : Nat) (hk : S[k]? = some (.box b ty cs)) (hp : cs[p]? = some t) (hu : Pin t u) (h : TellsC S l) : TellsC S ((b, p, u) :: l) := fun q hq => by
 rcases List.mem_cons.1 hq with rfl | hq
 ·exact ⟨_, List.mem_of_getElem? hk, rfl, t, hp, hu⟩
 ·exact h q hq
theorem tcR {S : St} {l : List (Nat × Nat × Value)} {g n c k p : Nat} {e : TypeId} {cs : List T} {t : T} {u : Value} (i : Nat) (hk : S[i]? = some (.row (some ⟨g, 0, none⟩) n c e k cs)) (hp : cs[p]? = some t) (hu : Pin t u) (h : TellsC S l) : TellsC S ((g, p, u) :: l) := fun q hq => by
 rcases List.mem_cons.1 hq with rfl | hq
 ·exact ⟨_, List.mem_of_getElem? hk, rfl, t, hp, hu⟩
 ·exact h q hq
section
variable {cx : Cx} {env : Env} {S : St} {o : Oper} {x : Operand} {ops : Array Oper} {K : Env → St → Prop} {Hd : World → Prop} {d : Nat}
theorem tells_cs {l : List (Nat × Nat × Value)} (h : TellsC S l) : Tells cx (HeldCs l) env S := fun a w hs q hq => by
 obtain ⟨e, he, ht⟩ := h q hq
 obtain ⟨i, hi⟩ := List.getElem?_of_mem he
 cases e with
 | box b ty cs =>
  obtain ⟨rfl, t, h1, h2⟩ := ht
  obtain ⟨us, hh, hV⟩ := hs.box hi
  obtain ⟨u, g1, g2, _⟩ := hV.get h1
  rw [cell_of_heap hh, g1, h2 _ _ _ g2]
 | row A n c e k cs =>
  obtain ⟨rfl, t, h1, h2⟩ := ht
  obtain ⟨us, hr, hV⟩ := hs.row hi
  obtain ⟨u, g1, g2, _⟩ := hV.get h1
  rw [hr.cell g1, h2 _ _ _ g2]
 | _ => exact ht.elim
theorem heldB {l : List (Nat × Nat × Value)} {b p n : Nat} {t : TypeId} {u : Value} {r : T} (j : Nat) (ho : o.op = .load t x) (h : aggSize cx.P t = some (false, n)) (hx : Ev env true x (.v (.pointer (some ⟨b, p, none⟩)))) (hu : l[j]? = some (b, p, u)) (ht : ∀ w L, VRep w L r u) :
    ∀ a w, Sim cx env S a w → ∃ u', VRep w (cx.X ++ M S) r u' ∧ ∀ w', HeldCs l w' → (execOp a.eval o).run cx.P w' = .ok (.value u') w' := fun a w hs =>
 ⟨u, ht _ _, fun w' hd => exec_load ho w' (by rw [hx.val hs rfl]; exact run_loadAt_one h w' (hd _ (List.mem_of_getElem? hu)))⟩
theorem heldE {l : List (Nat × Nat × Value)} {g m c p n : Nat} {t : TypeId} {u : Value} {r : T} (j : Nat) (ho : o.op = .load t x) (h : aggSize cx.P t = some (false, n)) (hx : Ev env true x (.ep (.slice (some ⟨g, 0, none⟩) m c) p)) (hu : l[j]? = some (g, p, u)) (ht : ∀ w L, VRep w L r u) :
    ∀ a w, Sim cx env S a w → ∃ u', VRep w (cx.X ++ M S) r u' ∧ ∀ w', HeldCs l w' → (execOp a.eval o).run cx.P w' = .ok (.value u') w' := fun a w hs =>
 ⟨u, ht _ _, fun w' hd => exec_load ho w' (by
  have hv := hx.rep hs rfl
  generalize a.eval x = v at hv
  rw [pinE _ _ _ hv]
  exact run_loadAt_one h w' (hd _ (List.mem_of_getElem? hu)))⟩
theorem AWH.tkN {fuel i : Nat} {listed : Array Bool} {t : T} (hi : ops[i]? = some o) (hs : Region.noSelect ops = true) (hf : Region.free .any ops listed i = true) (hr : (Region.ready .any ops listed).contains i = true) (hg : o.guard = none) (hd : o.dst = some d) (hN : d < cx.N)
    (hy : ∀ a w, Sim cx env S a w → ∃ u, VRep w (cx.X ++ M S) t u ∧ ∀ w', (execOp a.eval o).run cx.P w' = .ok (.value u) w') (h : AWH cx ops Hd fuel (listed.setIfInBounds i true) K ((d, true, t) :: env) S) : AWH cx ops Hd (fuel + 1) listed K env S := AWH.take hi hs hf hr hg hd hN (heldAll hy) h
theorem AWH.node {fuel : Nat} {listed : Array Bool} {ι : Type} (fuel' : Nat) (listed' : Array Bool) (E : ι → Env) (H : ι → St) (inv : ι → Prop) (h2 : ∀ y, inv y → AWH cx ops Hd fuel' listed' K (E y) (H y)) (h1 : (∀ y, inv y → AWH cx ops Hd fuel' listed' K (E y) (H y)) → AWH cx ops Hd fuel listed K env S) : AWH cx ops Hd fuel listed K env S := h1 h2
theorem AWH.to {fuel : Nat} {listed listed' : Array Bool} {env' : Env} {S' : St} (h : AWH cx ops Hd fuel listed' K env' S') (hl : listed = listed') (hs : S = S') (hsub : Sub env' env) : AWH cx ops Hd fuel listed K env S := by
 subst hl; subst hs
 exact fun a w hs => h a w (hs.weaken hsub)
abbrev AWT (cx : Cx) (ops : Array Oper) (Hd : World → Prop) (fuel i : Nat) (listed : Array Bool) (K : Env → St → Prop) (o : Oper) (env : Env) (S : St) : Prop := AWL cx ops [o] (fun env S => Tells cx Hd env S ∧ AWH cx ops Hd fuel (listed.setIfInBounds i true) K env S) env S
theorem AWH.four {o0 o1 o2 o3 : Oper} {fuel i0 i1 i2 i3 : Nat} {listed : Array Bool} (hr : Region.ready .any ops listed = [i0, i1, i2, i3]) (e0 : ops[i0]? = some o0) (e1 : ops[i1]? = some o1) (e2 : ops[i2]? = some o2) (e3 : ops[i3]? = some o3)
    (h0 : AWT cx ops Hd fuel i0 listed K o0 env S) (h1 : AWT cx ops Hd fuel i1 listed K o1 env S) (h2 : AWT cx ops Hd fuel i2 listed K o2 env S) (h3 : AWT cx ops Hd fuel i3 listed K o3 env S) : AWH cx ops Hd (fuel + 1) listed K env S := by
 intro a w hs hd
 refine wpAnyH_all hr (by simp) fun q hq => ?_
 simp only [List.mem_cons, List.not_mem_nil, or_false] at hq
 rcases hq with rfl | rfl | rfl | rfl
 ·exact wpOp_of_AWL e0 h0 (fun _ _ a w h1 h2 => ⟨h1.1 a w h2, h1.2 a w h2 (h1.1 a w h2)⟩) hs
 ·exact wpOp_of_AWL e1 h1 (fun _ _ a w h1 h2 => ⟨h1.1 a w h2, h1.2 a w h2 (h1.1 a w h2)⟩) hs
 ·exact wpOp_of_AWL e2 h2 (fun _ _ a w h1 h2 => ⟨h1.1 a w h2, h1.2 a w h2 (h1.1 a w h2)⟩) hs
 exact wpOp_of_AWL e3 h3 (fun _ _ a w h1 h2 => ⟨h1.1 a w h2, h1.2 a w h2 (h1.1 a w h2)⟩) hs
theorem AWH.five {o0 o1 o2 o3 o4 : Oper} {fuel i0 i1 i2 i3 i4 : Nat} {listed : Array Bool} (hr : Region.ready .any ops listed = [i0, i1, i2, i3, i4]) (e0 : ops[i0]? = some o0) (e1 : ops[i1]? = some o1) (e2 : ops[i2]? = some o2) (e3 : ops[i3]? = some o3) (e4 : ops[i4]? = some o4)
    (h0 : AWT cx ops Hd fuel i0 listed K o0 env S) (h1 : AWT cx ops Hd fuel i1 listed K o1 env S) (h2 : AWT cx ops Hd fuel i2 listed K o2 env S) (h3 : AWT cx ops Hd fuel i3 listed K o3 env S) (h4 : AWT cx ops Hd fuel i4 listed K o4 env S) : AWH cx ops Hd (fuel + 1) listed K env S := by
 intro a w hs hd
 refine wpAnyH_all hr (by simp) fun q hq => ?_
 simp only [List.mem_cons, List.not_mem_nil, or_false] at hq
 rcases hq with rfl | rfl | rfl | rfl | rfl
 ·exact wpOp_of_AWL e0 h0 (fun _ _ a w h1 h2 => ⟨h1.1 a w h2, h1.2 a w h2 (h1.1 a w h2)⟩) hs
 ·exact wpOp_of_AWL e1 h1 (fun _ _ a w h1 h2 => ⟨h1.1 a w h2, h1.2 a w h2 (h1.1 a w h2)⟩) hs
 ·exact wpOp_of_AWL e2 h2 (fun _ _ a w h1 h2 => ⟨h1.1 a w h2, h1.2 a w h2 (h1.1 a w h2)⟩) hs
 ·exact wpOp_of_AWL e3 h3 (fun _ _ a w h1 h2 => ⟨h1.1 a w h2, h1.2 a w h2 (h1.1 a w h2)⟩) hs
 exact wpOp_of_AWL e4 h4 (fun _ _ a w h1 h2 => ⟨h1.1 a w h2, h1.2 a w h2 (h1.1 a w h2)⟩) hs
theorem kpH {fuel i : Nat} {listed : Array Bool} {l : List (Nat × Nat × Value)} (h1 : TellsC S l) (h : AWH cx ops (HeldCs l) fuel (listed.setIfInBounds i true) K env S) : Tells cx (HeldCs l) env S ∧ AWH cx ops (HeldCs l) fuel (listed.setIfInBounds i true) K env S := ⟨tells_cs h1, h⟩
end
section
variable {cx : Cx} {env : Env} {S : St} {ops : Array Oper} {l : List Oper} {K : Env → St → Prop} {Q : Exit → Env → St → Prop}
theorem AW.rowSome {code : Code} {n c k : Nat} {A : Option Addr} {e : TypeId} {cs : List T} (i : Nat) (hi : S[i]? = some (.row A n c e k cs)) (hn : 0 < n * k) (h : ∀ g, A = some ⟨g, 0, none⟩ → AW cx code Q env S) : AW cx code Q env S := fun a w hs => by
 obtain ⟨us, hr, hV⟩ := hs.row hi
 obtain ⟨gb, e⟩ := hr.some (by rw [hr.1]; exact hn)
 exact h gb e a w hs
theorem AWL.rowSome {n c k : Nat} {A : Option Addr} {e : TypeId} {cs : List T} (i : Nat) (hi : S[i]? = some (.row A n c e k cs)) (hn : 0 < n * k) (h : ∀ g, A = some ⟨g, 0, none⟩ → AWL cx ops l K env S) : AWL cx ops l K env S := fun a w hs => by
 obtain ⟨us, hr, hV⟩ := hs.row hi
 obtain ⟨gb, e⟩ := hr.some (by rw [hr.1]; exact hn)
 exact h gb e a w hs
theorem AWL.eqLast {n c k : Nat} {A : Option Addr} {e : TypeId} {cs cs' : List T} (h : cs = cs') (hr : AWL cx ops l K env (S ++ [.row A n c e k cs'])) : AWL cx ops l K env (S ++ [.row A n c e k cs]) := h ▸ hr
end
section
variable {cx : Cx} {env : Env} {S : St} {o : Oper} {g : Bool} {x y : Operand}
theorem Yv.nilChkEp {b n c p : Nat} (ho : o.op = .nilCheck x) (hx : Ev env g x (.ep (.slice (some ⟨b, 0, none⟩) n c) p)) : Yv cx o env S g (.ep (.slice (some ⟨b, 0, none⟩) n c) p) := fun a w hs hg => by
 have hv := hx.rep hs hg
 refine ⟨_, hv, fun w' _ => ?_⟩
 have e := pinE _ _ _ hv
 simp [execOp, ho, e, Sem.run_pure]
theorem freeNilEp {b n c p : Nat} (ho : o.op = .nilCheck x) (hx : Ev env true x (.ep (.slice (some ⟨b, 0, none⟩) n c) p)) : ∀ a w, Sim cx env S a w → ∃ u, VRep w (cx.X ++ M S) (.ep (.slice (some ⟨b, 0, none⟩) n c) p) u ∧ ∀ w', (execOp a.eval o).run cx.P w' = .ok (.value u) w' := fun a w hs => by
 have hv := hx.rep hs rfl
 refine ⟨_, hv, fun w' => ?_⟩
 have e := pinE _ _ _ hv
 simp [execOp, ho, e, Sem.run_pure]
end
theorem ACalls.le {P : Program} {f : FuncId} {ts ts' : List T} {S0 : St} {R : T → St → Prop} (h : ACalls P f ts' S0 R) (hl : Les ts ts') : ACalls P f ts S0 R :=
 fun X w args h1 h2 h3 h4 h5 => h X w args h1 h2 h3 (h4.trans hl.len) fun j t' u ht hu => by
  have hj : j < ts.length := by
   rw [hl.len]
   exact (List.getElem?_eq_some_iff.1 ht).1
  exact hl.at_ j _ _ (List.getElem?_eq_getElem hj) ht _ _ _ (h5 j _ u (List.getElem?_eq_getElem hj) hu)
section
variable {cx : Cx} {env : Env} {S : St} {o : Oper} {x : Operand} {ops : Array Oper} {l : List Oper} {K : Env → St → Prop} {d : Nat} {t : T} {Hd : World → Prop}
theorem th {fuel : Nat} {listed listed' : Array Bool} {env' : Env} {S' : St} (h : AWH cx ops Hd fuel listed' K env' S') (hsub : Sub env' env) (hl : listed = listed' := by kernel_rfl) (hs : S = S' := by rfl) : AWH cx ops Hd fuel listed K env S := AWH.to h hl hs hsub
theorem T2 {i fuel : Nat} {listed : Array Bool} (hi : ops[i]? = some o) (hy : ∀ a w, Sim cx env S a w → ∃ u, VRep w (cx.X ++ M S) t u ∧ ∀ w', Hd w' → (execOp a.eval o).run cx.P w' = .ok (.value u) w') (h : AWH cx ops Hd fuel (listed.setIfInBounds i true) K ((d, true, t) :: env) S) (hs : Region.noSelect ops = true := by kernel_rfl) (hf : Region.free .any ops listed i = true := by kernel_rfl) (hr : (Region.ready .any ops listed).contains i = true := by kernel_rfl) (hg : o.guard = none := by rfl) (hd : o.dst = some d := by rfl) (hN : d < cx.N := by exact B rfl) : AWH cx ops Hd (fuel + 1) listed K env S := AWH.take hi hs hf hr hg hd hN hy h
end
end Go.Proofs.Ytlfklgganokgdaa

namespace Go.Proofs.Ytlfklgganokgdaa
open Go Go.RowKit
def nilT : T := .v (.slice none 0 0)
def insRaw (k d a b imm : Int) : List T := [zi k, zi d, zi a, zi b, zi 0, zi 0, zi 0, zi 0, zi 0, zi imm, nilT]
def mkIns (k d a b imm : Int) : Ins := ⟨k, d, a, b, 0, 0, 0, 0, 0, imm, []⟩
def little : Prog := ⟨[⟨[109, 97, 105, 110], 0, 3, 0, [mkIns 1 0 0 0 5, mkIns 1 1 0 0 7, mkIns 4 2 0 1 0, mkIns 26 0 2 0 0]⟩], [], 0⟩
def littleRaw : T := .agg [.sl 5 [sv [109, 97, 105, 110], zi 0, zi 3, zi 0, .sl 11 (insRaw 1 0 0 0 5 ++ insRaw 1 1 0 0 7 ++ insRaw 4 2 0 1 0 ++ insRaw 26 0 2 0 0)], nilT, zi 0]
theorem nil_le (k : Nat) : Le nilT (.sl k []) := nil_sl (by unfold maxLen; omega)
theorem ins_le (k d a b imm : Int) : Les (insRaw k d a b imm) (insCells (mkIns k d a b imm)) :=
 .cons .refl (.cons .refl (.cons .refl (.cons .refl (.cons .refl (.cons .refl (.cons .refl (.cons .refl (.cons .refl (.cons .refl (.cons (nil_le 1) .refl))))))))))
theorem little_le : Le littleRaw (.agg (progCells little)) := by
 refine Le.agg (.cons (Le.sl ?_) (.cons (nil_le 1) .refl))
 refine .cons .refl (.cons .refl (.cons .refl (.cons .refl (.cons (Le.sl ?_) .refl))))
 exact ((((ins_le 1 0 0 0 5).append (ins_le 1 1 0 0 7)).append (ins_le 4 2 0 1 0)).append (ins_le 26 0 2 0 0))
theorem little_in : ProgIn little := by
 refine ⟨by decide, by decide, fun f hf => ?_, by decide, by decide, by decide⟩
 cases List.mem_singleton.1 hf
 exact ⟨by decide, by decide, by decide, fun i hi => by
  simp only [List.mem_cons, List.not_mem_nil, or_false] at hi
  rcases hi with rfl | rfl | rfl | rfl <;> exact ⟨by decide, by decide, by decide⟩⟩
theorem set_same {l : List Fn} {j : Nat} (h : j < l.length) (t : T) : ((l.flatMap fnCells).set (j * 5 + 4) t).set (j * 5 + 4) (.sl 11 ((l.getD j default).code.flatMap insCells)) = l.flatMap fnCells := by
 rw [List.set_set]
 have h1 : (l.flatMap fnCells)[j * 5 + 4]? = some (.sl 11 ((l.getD j default).code.flatMap insCells)) := flat_at fk h 4 (by decide)
 have h2 : j * 5 + 4 < (l.flatMap fnCells).length := by rw [len_funs]; omega
 rw [List.getElem?_eq_getElem h2] at h1
 rw [← Option.some.inj h1, List.set_getElem_self]
theorem set_args {l : List Ins} {j : Nat} (h : j < l.length) : (l.flatMap insCells).set (j * 11 + 10) (.sl 1 ((l.getD j default).args.map zi)) = l.flatMap insCells := by
 have h1 : (l.flatMap insCells)[j * 11 + 10]? = some (.sl 1 ((l.getD j default).args.map zi)) := flat_at ik h 10 (by decide)
 have h2 : j * 11 + 10 < (l.flatMap insCells).length := by rw [len_code]; omega
 rw [List.getElem?_eq_getElem h2] at h1
 rw [← Option.some.inj h1, List.set_getElem_self]
theorem set_get {l : List T} {j : Nat} (t : T) (h : j < l.length) : (l.set j t)[j]? = some t := by rw [List.getElem?_set_self h]
theorem iargs_at {l : List Ins} {j : Nat} (h : j < l.length) : (l.flatMap insCells)[j * 11 + 10]? = some (.sl 1 ((l.getD j default).args.map zi)) := flat_at ik h 10 (by decide)
/-! ### how great a program is -/
def bigF (f : Fn) (n : Int) : Bool := ((decide (4000 < f.regs) || decide (4000 < f.slots)) || decide ((4000 : Int) < f.code.length)) || decide (4000 < n)
def addF (f : Fn) (n : Int) : Int := IntKind.i64.wrap (IntKind.i64.wrap (IntKind.i64.wrap (n + f.regs) + f.slots) + (f.code.length : Int))
def sizeF : List Fn → Int → Int
 | [], n => n
 | f :: r, n => if bigF f n = true then 5000 else sizeF r (addF f n)
theorem size_drop {l : List Fn} {j : Nat} (h : j < l.length) (n : Int) : sizeF (l.drop j) n = if bigF (l.getD j default) n = true then 5000 else sizeF (l.drop (j + 1)) (addF (l.getD j default) n) := by
 rw [List.drop_eq_getElem_cons h, sizeF, gd h]
/-! ### a process -/
structure PS where
 prog : Prog
 lab : T
 heap : Wd64
 strict : Bool
 w : T
 pages : T
 ent : Bool
 st : Int
 ans : Wd64
 code : Int
 steps : Int
def psC (x : PS) (cl : T) : List T := [.sl 5 (x.prog.funs.flatMap fnCells), .sl 1 (x.prog.data.map u8), zi x.prog.zero, x.lab, zw x.heap, bv x.strict, x.w, x.pages, cl, bv x.ent, zi x.st, zw x.ans, zi x.code, zi x.steps]
structure Fr where
 f : Int
 at_ : Int
 nr : Nat
 ns : Nat
 r : List Wd64
 slot : List Wd64
 set : List Bool
 there : List Bool
 d : Int
structure FA where
 r : Option Addr
 s : Option Addr
 t : Option Addr
 h : Option Addr
def frC (x : Fr) (a : FA) : List T := [zi x.f, zi x.at_, .v (.slice a.r x.nr x.nr), .v (.slice a.s x.ns x.ns), .v (.slice a.t x.nr x.nr), .v (.slice a.h x.ns x.ns), zi x.d]
def frR (x : Fr) (a : FA) : St := [.row a.r x.nr x.nr 39 1 (x.r.map zw), .row a.s x.ns x.ns 39 1 (x.slot.map zw), .row a.t x.nr x.nr 4 1 (x.set.map bv), .row a.h x.ns x.ns 4 1 (x.there.map bv)]
theorem frC_len (x : Fr) (a : FA) : (frC x a).length = 7 := rfl
def rJ (args : List Wd64) (R j : Nat) : List Wd64 := args.take j ++ List.replicate (R - j) 0#64
def sJ (R j : Nat) : List Bool := List.replicate j true ++ List.replicate (R - j) false
def openFr (f : Fn) (fi : Int) (args : List Wd64) (d : Int) : Fr :=
 ⟨fi, 0, f.regs.toNat, f.slots.toNat, rJ args f.regs.toNat args.length, List.replicate f.slots.toNat 0#64, sJ f.regs.toNat args.length, List.replicate f.slots.toNat false, d⟩
theorem mk_rep (n : Nat) (u : Value) : (List.replicate n ([u].map T.v)).flatten = List.replicate n (T.v u) := by
 induction n with
 | zero => rfl
 | succ n ih => rw [List.replicate_succ, List.flatten_cons, ih]; rfl
theorem zero_r (args : List Wd64) (R : Nat) : (List.replicate R ([Value.int .u64 0].map T.v)).flatten = (rJ args R 0).map zw := by
 rw [mk_rep]; simp [rJ, zw]
theorem zero_s (R : Nat) : (List.replicate R ([Value.bool false].map T.v)).flatten = (sJ R 0).map bv := by
 rw [mk_rep]; simp [sJ, bv]
theorem zero_b (R : Nat) : (List.replicate R ([Value.bool false].map T.v)).flatten = (List.replicate R false).map bv := by
 rw [mk_rep]; simp [bv]
theorem rj_len {args : List Wd64} {R j : Nat} (h : j ≤ args.length) (hR : args.length ≤ R) : (rJ args R j).length = R := by
 unfold rJ; rw [List.length_append, List.length_take, List.length_replicate]; omega
theorem sj_len {R j : Nat} (h : j ≤ R) : (sJ R j).length = R := by
 unfold sJ; rw [List.length_append, List.length_replicate, List.length_replicate]; omega
theorem rj_succ {args : List Wd64} {R j : Nat} (h : j < args.length) (hR : args.length ≤ R) : ((rJ args R j).map zw).set (j * 1) (zw (args.getD j 0#64)) = (rJ args R (j + 1)).map zw := by
 rw [Nat.mul_one, ← List.map_set]
 congr 1
 unfold rJ
 rw [show args.take (j + 1) = args.take j ++ [args.getD j 0#64] from take_gd h, show R - j = (R - (j + 1)) + 1 by omega, List.replicate_succ, List.set_append_right _ _ (by rw [List.length_take]; omega), List.length_take, Nat.min_eq_left (Nat.le_of_lt h), Nat.sub_self, List.append_assoc]
 rfl
theorem sj_succ {R j : Nat} (hR : j < R) : ((sJ R j).map bv).set (j * 1) (bv true) = (sJ R (j + 1)).map bv := by
 rw [Nat.mul_one, ← List.map_set]
 congr 1
 unfold sJ
 rw [show R - j = (R - (j + 1)) + 1 by omega, List.replicate_succ, List.set_append_right _ _ (by rw [List.length_replicate]; exact Nat.le_refl _), List.length_replicate, Nat.sub_self, List.replicate_succ', List.append_assoc]
 rfl
theorem bool_at {l : List Bool} {j : Nat} (h : j < l.length) : (l.map bv)[j * 1 + 0]? = some (bv (l.getD j default)) := by
 rw [Nat.mul_one, Nat.add_zero, List.getElem?_map, List.getElem?_eq_getElem h, gd h]; rfl
theorem len_zw {l : List Wd64} : (l.map zw).length = l.length * 1 := by simp
end Go.Proofs.Ytlfklgganokgdaa

namespace Go.Proofs.Ytlfklgganokgdaa
open Go Go.RowKit

set_option maxHeartbeats 400000 in
theorem clone45R (l : List Fn) (h1 : l.length ≤ 1048576) :
    ACalls Try.prog 45 [.sl 5 (l.flatMap fnCells)] [] (fun t S => ∃ A c, t = .v (.slice A l.length c) ∧ S = [.row A l.length c 51 5 (l.flatMap fnCells)]) := by
 refine ACalls.intro Try.func45 rfl Try.ntmps45 nB rfl fun X w0 => ?_
 refine ra ?_
 refine AW.seq ?_
 refine rs (ym ?_)
 refine AWL.yx rfl rfl (B rfl) (Yx.eqNil rfl so_22 (E rfl rfl)) ?_
 rintro t4 ⟨v4, rfl, hnil4⟩
 refine nl ?_
 refine AW.cond rfl (fun h0t => ?_) (fun h0f => ?_)
 ·refine ra ?_
  refine AW.rowNil 51 5 ?_
  refine AW.ret (retI (.tmp rfl .nil) ?_)
  have hb : l = [] := by
   cases hq : l with
   | nil => rfl
   | cons a r => rw [hq] at hnil4; exact absurd (hnil4 h0t) (by intro h; have := congrArg List.length h; simp [List.flatMap_cons, fnCells, insCells] at this)
  subst hb
  exact ⟨none, 0, rfl, rfl⟩
 refine AW.skip ?_
 refine rs ?_
 refine AWL.buildSliceRow rfl rfl (B rfl) rfl el_22 (B rfl) rfl evs0 nB rfl rfl (fun A5 => ?_)
 refine ym ?_
 refine AWL.appendRow (i := 0) rfl rfl (B rfl) rfl el_22 (B rfl) rfl (E rfl rfl) (SrcT.sl so_22 (B rfl) (E rfl rfl) len_funs) (by unfold maxLen; omega) (by omega) (fun A7 c7 => ?_)
 refine ya ?_
 refine AW.ret (retI (.tmp rfl .nil) ?_)
 exact ⟨A7, c7, by rw [Nat.zero_add]; rfl, by rw [Nat.zero_add]; rfl⟩

set_option maxHeartbeats 400000 in
theorem clone46R (l : List Ins) (h1 : l.length ≤ 1048576) :
    ACalls Try.prog 46 [.sl 11 (l.flatMap insCells)] [] (fun t S => ∃ A c, t = .v (.slice A l.length c) ∧ S = [.row A l.length c 58 11 (l.flatMap insCells)]) := by
 refine ACalls.intro Try.func46 rfl Try.ntmps46 nB rfl fun X w0 => ?_
 refine ra ?_
 refine AW.seq ?_
 refine rs (ym ?_)
 refine AWL.yx rfl rfl (B rfl) (Yx.eqNil rfl so_49 (E rfl rfl)) ?_
 rintro t4 ⟨v4, rfl, hnil4⟩
 refine nl ?_
 refine AW.cond rfl (fun h0t => ?_) (fun h0f => ?_)
 ·refine ra ?_
  refine AW.rowNil 58 11 ?_
  refine AW.ret (retI (.tmp rfl .nil) ?_)
  have hb : l = [] := by
   cases hq : l with
   | nil => rfl
   | cons a r => rw [hq] at hnil4; exact absurd (hnil4 h0t) (by intro h; have := congrArg List.length h; simp [List.flatMap_cons, fnCells, insCells] at this)
  subst hb
  exact ⟨none, 0, rfl, rfl⟩
 refine AW.skip ?_
 refine rs ?_
 refine AWL.buildSliceRow rfl rfl (B rfl) rfl el_49 (B rfl) rfl evs0 nB rfl rfl (fun A5 => ?_)
 refine ym ?_
 refine AWL.appendRow (i := 0) rfl rfl (B rfl) rfl el_49 (B rfl) rfl (E rfl rfl) (SrcT.sl so_49 (B rfl) (E rfl rfl) len_code) (by unfold maxLen; omega) (by omega) (fun A7 c7 => ?_)
 refine ya ?_
 refine AW.ret (retI (.tmp rfl .nil) ?_)
 exact ⟨A7, c7, by rw [Nat.zero_add]; rfl, by rw [Nat.zero_add]; rfl⟩

set_option maxHeartbeats 400000 in
theorem clone47 (l : List Int) (h1 : l.length ≤ 1048576) :
    ACalls Try.prog 47 [.sl 1 (l.map zi)] [] (fun t_ S => t_ = .sl 1 (l.map zi)) := by
 refine ACalls.intro Try.func47 rfl Try.ntmps47 nB rfl fun X w0 => ?_
 refine ra ?_
 refine AW.seq ?_
 refine rs (ym ?_)
 refine AWL.yx rfl rfl (B rfl) (Yx.eqNil rfl so_47 (E rfl rfl)) ?_
 rintro t4 ⟨v4, rfl, hnil4⟩
 refine nl ?_
 refine AW.cond rfl (fun h0t => ?_) (fun h0f => ?_)
 ·refine ra ?_
  refine AW.retype (k := 2) rfl (nil_sl (k := 1) (by unfold maxLen; omega)) ?_
  refine AW.ret (retI (.tmp rfl .nil) ?_)
  have hb := List.map_eq_nil_iff.1 (hnil4 h0t)
  subst hb
  rfl
 refine AW.skip ?_
 refine rs ?_
 refine AWL.buildSliceRow rfl rfl (B rfl) rfl el_47 (B rfl) rfl evs0 nB rfl rfl (fun A5 => ?_)
 refine ym ?_
 refine AWL.appendRow (i := 0) rfl rfl (B rfl) rfl el_47 (B rfl) rfl (E rfl rfl) (SrcT.sl so_47 (B rfl) (E rfl rfl) len_args) (by unfold maxLen; omega) (by omega) (fun A7 c7 => ?_)
 refine ya ?_
 refine AW.freeze 0 2 rfl (B rfl) rfl ?_
 refine AW.ret (retI (.tmp rfl .nil) ?_)
 rfl

set_option maxHeartbeats 400000 in
theorem clone48 (l : List UInt8) (h1 : l.length ≤ 1048576) :
    ACalls Try.prog 48 [.sl 1 (l.map u8)] [] (fun t_ S => t_ = .sl 1 (l.map u8)) := by
 refine ACalls.intro Try.func48 rfl Try.ntmps48 nB rfl fun X w0 => ?_
 refine ra ?_
 refine AW.seq ?_
 refine rs (ym ?_)
 refine AWL.yx rfl rfl (B rfl) (Yx.eqNil rfl so_23 (E rfl rfl)) ?_
 rintro t4 ⟨v4, rfl, hnil4⟩
 refine nl ?_
 refine AW.cond rfl (fun h0t => ?_) (fun h0f => ?_)
 ·refine ra ?_
  refine AW.retype (k := 2) rfl (nil_sl (k := 1) (by unfold maxLen; omega)) ?_
  refine AW.ret (retI (.tmp rfl .nil) ?_)
  have hb := List.map_eq_nil_iff.1 (hnil4 h0t)
  subst hb
  rfl
 refine AW.skip ?_
 refine rs ?_
 refine AWL.buildSliceRow rfl rfl (B rfl) rfl el_23 (B rfl) rfl evs0 nB rfl rfl (fun A5 => ?_)
 refine ym ?_
 refine AWL.appendRow (i := 0) rfl rfl (B rfl) rfl el_23 (B rfl) rfl (E rfl rfl) (SrcT.sl so_23 (B rfl) (E rfl rfl) len_data) (by unfold maxLen; omega) (by omega) (fun A7 c7 => ?_)
 refine ya ?_
 refine AW.freeze 0 2 rfl (B rfl) rfl ?_
 refine AW.ret (retI (.tmp rfl .nil) ?_)
 rfl

set_option maxHeartbeats 400000 in
theorem little26  :
    ACalls Try.prog 26 [] [] (fun t S => t = littleRaw) := by
 refine ACalls.intro Try.func26 rfl Try.ntmps26 nB rfl fun X w0 => ?_
 refine rs ?_
 refine AWL.allocOp rfl rfl (B rfl) rfl zc_25 (fun b0 => ?_)
 refine nl ?_
 refine rs (Y1 (Yv.buildS rfl sh_58 (evpC eV (evpC eV evp0)) (fun _ => rfl)) ?_)
 refine Y1 (Yv.buildS rfl sh_58 (evpC eV (evpC eV (evpC eV evp0))) (fun _ => rfl)) ?_
 refine Y1 (Yv.buildS rfl sh_58 (evpC eV (evpC eV (evpC eV evp0))) (fun _ => rfl)) ?_
 refine Y1 (Yv.buildS rfl sh_58 (evpC eV (evpC eV evp0)) (fun _ => rfl)) ?_
 refine AWL.buildSliceE rfl rfl (B rfl) rfl el_49 (B rfl) rfl (evsC (E rfl rfl) (evsC (E rfl rfl) (evsC (E rfl rfl) (evsC (E rfl rfl) evs0)))) nB rfl rfl ?_
 refine Y1 (Yv.buildS rfl sh_51 (evpC eV (evpC eV (evpC eV evp0))) (fun _ => rfl)) ?_
 refine AWL.buildSliceE rfl rfl (B rfl) rfl el_22 (B rfl) rfl (evsC (E rfl rfl) evs0) nB rfl rfl ?_
 refine Y1 (Yv.buildS rfl sh_25 (evpC eV evp0) (fun _ => rfl)) ?_
 refine AWL.storeBox (i := 0) rfl rfl rfl ag_25 rfl (E rfl rfl) (E rfl rfl) rfl rfl nB (nl ?_)
 refine AW.ret (retI (.cellA (i := 0) rfl ag_25 rfl rfl rfl .nil) ?_)
 rfl

set_option maxHeartbeats 2000000 in
theorem size8 (p : Prog) (hp : ProgIn p) :
    ACalls Try.prog 8 [.agg (progCells p)] [] (fun t S => t = zi (sizeF p.funs 0)) := by
 have hpf := hp.funs
 refine ACalls.intro Try.func8 rfl Try.ntmps8 nB rfl fun X w0 => ?_
 refine rs ?_
 refine AWL.boxOp rfl rfl (B rfl) rfl (E rfl rfl) rfl (fun b1 => ?_)
 refine ya ?_
 refine ra ?_
 refine AW.seq ?_
 refine ra ?_
 refine AW.block ?_
 refine AW.loop2 (fun (j : Nat) (n : Int) => [(1, true, pv b1), (3, true, zi n), (4, true, .v (.int .i64 (j : Int)))]) (fun (j : Nat) (n : Int) => [.box b1 25 (progCells p)]) (fun (j : Nat) (n : Int) => j ≤ p.funs.length ∧ sizeF (p.funs.drop j) n = sizeF p.funs 0) (fun (j : Nat) (n : Int) => p.funs.length - j) 0 0 ?_ ?_ ?_ ?_
 ·exact ⟨Nat.zero_le _, rfl⟩
 ·exact (su (su (su sn)))
 ·rfl
 intro j n hinv
 obtain ⟨hj0, hsz⟩ := hinv
 refine AW.seq ?_
 refine rs (ym ?_)
 refine yf fo_25_0 ?_
 refine yl ag_22 0 ?_
 refine Y1 (Yv.lenSl rfl so_22 (B rfl) eV len_funs) ?_
 refine Y1 (Yv.lss rfl eV eV) (nl ?_)
 refine AW.cond rfl (fun h0t => ?_) (fun h0f => ?_)
 ·try replace h0t := odt h0t
  have hj : j < p.funs.length := by omega
  have hfi := hp.fn _ (getD_mem hj)
  have hfc := hfi.code
  refine AW.skip ?_
  refine AW.seq ?_
  refine AW.block ?_
  refine rs (yf fo_25_0 ?_)
  refine yl ag_22 0 ?_
  refine ym ?_
  refine Y1 (Yv.indexSl rfl ss_22 (B rfl) eV eV (fun hg => ⟨rfl, (by first | omega | (simp only [len_code, len_funs, len_args, len_data]; omega))⟩)) ?_
  refine Y1 (Yv.loadRpA rfl ag_51 eV (fun hg => fn_cells (by omega))) ?_
  refine AWL.allocOp rfl rfl (B rfl) rfl zc_51 (fun b5 => ?_)
  refine AWL.storeBox (i := 1) rfl rfl rfl ag_51 rfl (E rfl rfl) (E rfl rfl) rfl rfl nB (nl ?_)
  refine AW.seq ?_
  refine rs (yf fo_51_2 ?_)
  refine yl ag_3 1 ?_
  refine Y1 (Yv.gtr rfl eV eV) ?_
  refine ym ?_
  refine gF (Yv.fieldBox rfl fo_51_3 eV) ?_
  refine gF (Yv.loadBox rfl ag_3 (i := 1) rfl (Eg rfl rfl id) rfl) ?_
  refine gF (Yv.gtr rfl (Eg rfl rfl id) eV) ?_
  refine Y1 (Yv.pickOr (t := .const (.bool true)) rfl eV (Eg rfl rfl id)) ?_
  refine ym ?_
  refine gF (Yv.fieldBox rfl fo_51_4 eV) ?_
  refine gF (Yv.loadBox rfl ag_49 (i := 1) rfl (Eg rfl rfl id) rfl) ?_
  refine gF (Yv.lenSl rfl so_49 (B rfl) (Eg rfl rfl id) len_code) ?_
  refine gF (Yv.gtr rfl (Eg rfl rfl id) eV) ?_
  refine Y1 (Yv.pickOr (t := .const (.bool true)) rfl eV (Eg rfl rfl id)) ?_
  refine ym ?_
  refine gF (Yv.move rfl eV) ?_
  refine gF (Yv.gtr rfl (Eg rfl rfl id) eV) ?_
  refine Y1 (Yv.pickOr (t := .const (.bool true)) rfl eV (Eg rfl rfl id)) (nl ?_)
  refine AW.cond rfl (fun h1t => ?_) (fun h1f => ?_)
  ·refine ra ?_
   refine AW.ret (retI (.tmp rfl .nil) ?_)
   rw [← hsz, size_drop hj, if_pos (show bigF (p.funs.getD j default) n = true from h1t)]
   rfl
  refine AW.skip ?_
  refine AW.region ?_
  refine ym ?_
  refine yf fo_51_2 ?_
  refine yl ag_3 1 ?_
  refine Y1 (Yv.add rfl eV eV) ?_
  refine yf fo_51_3 ?_
  refine yl ag_3 1 ?_
  refine Y1 (Yv.add rfl eV eV) ?_
  refine yf fo_51_4 ?_
  refine yl ag_49 1 ?_
  refine Y1 (Yv.lenSl rfl so_49 (B rfl) eV len_code) ?_
  refine Y1 (Yv.add rfl eV eV) ?_
  refine ya ?_
  refine AW.dropAt 1 ?_
  refine AW.region ?_
  refine ym ?_
  refine Y1 (Yv.addN_i64 rfl eV eV (fun hg => by omega)) ?_
  refine ya ?_
  refine ⟨j + 1, _, ⟨by omega, ?_⟩, by omega, (su (su (Sub.cons rfl (by simp) Sub.nil))), rfl⟩
  rw [← hsz, size_drop hj, if_neg (by rw [show bigF (p.funs.getD j default) n = false from h1f]; decide)]
  rfl
 try replace h0f := odf h0f
 refine AW.exit ?_
 refine rs (ym ?_)
 refine ya ?_
 refine AW.ret (retI (.tmp rfl .nil) ?_)
 rw [← hsz, List.drop_of_length_le (by omega)]
 rfl

set_option maxHeartbeats 8000000 in
theorem kept29 (p : Prog) (hp : ProgIn p) :
    ACalls Try.prog 29 [.agg (progCells p)] [] (fun t S => t = .agg (progCells p)) := by
 have hpf := hp.funs
 have hpd := hp.data
 refine ACalls.intro Try.func29 rfl Try.ntmps29 nB rfl fun X w0 => ?_
 refine rs ?_
 refine AWL.boxOp rfl rfl (B rfl) rfl (E rfl rfl) rfl (fun b1 => ?_)
 refine AWL.allocOp rfl rfl (B rfl) rfl zc_25 (fun b2 => ?_)
 refine nl ?_
 refine rs (yf fo_25_0 ?_)
 refine yl ag_22 0 ?_
 refine C1 rfl ce_45 (E rfl rfl) (evsC (E rfl rfl) evs0) (S1 := []) (S2 := _) rfl (clone45R p.funs hpf) ?_
 rintro t7 S7 ⟨A1, c1, rfl, rfl⟩
 refine yf fo_25_0 ?_
 refine AWL.storeBox (i := 1) rfl rfl rfl ag_22 rfl (E rfl rfl) (E rfl rfl) rfl rfl nB (nl ?_)
 refine AW.eqS (S' := [.row A1 p.funs.length c1 51 5 (p.funs.flatMap fnCells), .box b1 25 [.v (.slice A1 p.funs.length c1), .sl 1 (p.data.map u8), zi p.zero], .box b2 25 [nilT, nilT, zi 0]]) rfl ?_
 refine AW.seq ?_
 refine rs (yf fo_25_0 ?_)
 refine yl ag_22 1 ?_
 refine Y1 (Yv.lenV rfl so_22 eV) ?_
 refine ym (nl ?_)
 refine AW.block ?_
 refine AW.loop (fun (k : Nat) => [(1, true, pv b1), (2, true, pv b2), (10, true, .v (.slice A1 p.funs.length c1)), (11, true, .v (.int .i64 (p.funs.length : Int))), (12, true, .v (.int .i64 (k : Int)))]) (fun (k : Nat) => [.row A1 p.funs.length c1 51 5 (p.funs.flatMap fnCells), .box b1 25 [.v (.slice A1 p.funs.length c1), .sl 1 (p.data.map u8), zi p.zero], .box b2 25 [nilT, nilT, zi 0]]) (fun (k : Nat) => k ≤ p.funs.length) (fun (k : Nat) => p.funs.length - k) 0 ?_ ?_ ?_ ?_
 ·exact Nat.zero_le _
 ·exact (su (su (su (su (su sn)))))
 ·rfl
 intro k hinv
 refine rs (Y1 (Yv.lss rfl eV eV) (nl ?_))
 refine AW.seq ?_
 refine AW.cond rfl (fun h0t => ?_) (fun h0f => ?_)
 ·try replace h0t := odt h0t
  have hk : k < p.funs.length := by omega
  have hfi := hp.fn _ (getD_mem hk)
  have hfc := hfi.code
  refine AW.skip ?_
  refine AW.seq ?_
  refine AW.block ?_
  refine rs (ym ?_)
  refine ya ?_
  refine AW.mid (α := Option Addr × Nat) (fun _ => [(1, true, pv b1), (2, true, pv b2), (3, true, .v (.int .i64 (k : Int))), (10, true, .v (.slice A1 p.funs.length c1)), (11, true, .v (.int .i64 (p.funs.length : Int))), (12, true, .v (.int .i64 (k : Int)))]) (fun y => [.row y.1 (p.funs.getD k default).code.length y.2 58 11 ((p.funs.getD k default).code.flatMap insCells), .row A1 p.funs.length c1 51 5 ((p.funs.flatMap fnCells).set (k * 5 + 4) (.v (.slice y.1 (p.funs.getD k default).code.length y.2))), .box b1 25 [.v (.slice A1 p.funs.length c1), .sl 1 (p.data.map u8), zi p.zero], .box b2 25 [nilT, nilT, zi 0]]) (fun _ => True) ?_ ?_
  ·refine AW.regionP rfl ?_
   refine T1 (i := 0) rfl (freeField rfl fo_25_0 (E rfl rfl)) ?_
   refine T1 (i := 2) rfl (freeMove rfl (E rfl rfl)) ?_
   refine T1 (i := 3) rfl (freeField rfl fo_25_0 (E rfl rfl)) ?_
   refine T1 (i := 5) rfl (freeMove rfl (E rfl rfl)) ?_
   refine AWP.two (i := 1) (j := 4) (by kernel_rfl) rfl rfl ?_ ?_
   ·refine yl ag_22 1 (nl ?_)
    refine p1 4 ?_
    refine yl ag_22 1 (nl ?_)
    refine p1 6 ?_
    refine Y1 (Yv.indexRow rfl ss_22 (i := 0) rfl eV eV (fun hg => ⟨rfl, by omega⟩)) (nl ?_)
    refine p1 7 ?_
    refine Y1 (Yv.fieldEp rfl fo_51_4 eV) (nl ?_)
    refine p1 8 ?_
    refine Y1 (Yv.loadEp rfl ag_49 (i := 0) rfl eV (fun hg => fcode_at (by omega))) (nl ?_)
    refine p1 9 ?_
    refine C1 rfl ce_46 (E rfl rfl) (evsC (E rfl rfl) evs0) (S1 := []) (S2 := _) rfl (clone46R (p.funs.getD k default).code hfc) ?_
    rintro t24 S24 ⟨A2, c2, rfl, rfl⟩
    refine nl ?_
    refine p1 10 ?_
    refine Y1 (Yv.indexRow rfl ss_22 (i := 1) rfl eV eV (fun hg => ⟨rfl, by omega⟩)) (nl ?_)
    refine p1 11 ?_
    refine Y1 (Yv.fieldEp rfl fo_51_4 eV) (nl ?_)
    refine p1 12 ?_
    refine AWL.storeEp1 (i := 1) rfl rfl rfl ag_49 rfl (E rfl rfl) (E rfl rfl) rfl rfl (by rw [len_funs]; omega) (nl ?_)
    refine AWP.done (by kernel_rfl) ?_
    exact ⟨(A2, c2), trivial, (su (su (su (su (su (su sn)))))), rfl⟩
   refine yl ag_22 1 (nl ?_)
   refine T1 (i := 6) rfl (freeIdxRow (i := 0) rfl ss_22 rfl (E rfl rfl) (E rfl rfl) ⟨rfl, by omega⟩) ?_
   refine T1 (i := 7) rfl (freeFieldEp rfl fo_51_4 (E rfl rfl)) ?_
   refine AWP.two (i := 1) (j := 8) (by kernel_rfl) rfl rfl ?_ ?_
   ·refine yl ag_22 1 (nl ?_)
    refine p1 8 ?_
    refine Y1 (Yv.loadEp rfl ag_49 (i := 0) rfl eV (fun hg => fcode_at (by omega))) (nl ?_)
    refine p1 9 ?_
    refine C1 rfl ce_46 (E rfl rfl) (evsC (E rfl rfl) evs0) (S1 := []) (S2 := _) rfl (clone46R (p.funs.getD k default).code hfc) ?_
    rintro t24 S24 ⟨A2, c2, rfl, rfl⟩
    refine nl ?_
    refine p1 10 ?_
    refine Y1 (Yv.indexRow rfl ss_22 (i := 1) rfl eV eV (fun hg => ⟨rfl, by omega⟩)) (nl ?_)
    refine p1 11 ?_
    refine Y1 (Yv.fieldEp rfl fo_51_4 eV) (nl ?_)
    refine p1 12 ?_
    refine AWL.storeEp1 (i := 1) rfl rfl rfl ag_49 rfl (E rfl rfl) (E rfl rfl) rfl rfl (by rw [len_funs]; omega) (nl ?_)
    refine AWP.done (by kernel_rfl) ?_
    exact ⟨(A2, c2), trivial, (su (su (su (su (su (su sn)))))), rfl⟩
   refine Y1 (Yv.loadEp rfl ag_49 (i := 0) rfl eV (fun hg => fcode_at (by omega))) (nl ?_)
   refine AWP.two (i := 1) (j := 9) (by kernel_rfl) rfl rfl ?_ ?_
   ·refine yl ag_22 1 (nl ?_)
    refine p1 9 ?_
    refine C1 rfl ce_46 (E rfl rfl) (evsC (E rfl rfl) evs0) (S1 := []) (S2 := _) rfl (clone46R (p.funs.getD k default).code hfc) ?_
    rintro t24 S24 ⟨A2, c2, rfl, rfl⟩
    refine nl ?_
    refine p1 10 ?_
    refine Y1 (Yv.indexRow rfl ss_22 (i := 1) rfl eV eV (fun hg => ⟨rfl, by omega⟩)) (nl ?_)
    refine p1 11 ?_
    refine Y1 (Yv.fieldEp rfl fo_51_4 eV) (nl ?_)
    refine p1 12 ?_
    refine AWL.storeEp1 (i := 1) rfl rfl rfl ag_49 rfl (E rfl rfl) (E rfl rfl) rfl rfl (by rw [len_funs]; omega) (nl ?_)
    refine AWP.done (by kernel_rfl) ?_
    exact ⟨(A2, c2), trivial, (su (su (su (su (su (su sn)))))), rfl⟩
   refine C1 rfl ce_46 (E rfl rfl) (evsC (E rfl rfl) evs0) (S1 := []) (S2 := _) rfl (clone46R (p.funs.getD k default).code hfc) ?_
   rintro t24 S24 ⟨A2, c2, rfl, rfl⟩
   refine nl ?_
   refine p1 1 ?_
   refine yl ag_22 2 (nl ?_)
   refine p1 10 ?_
   refine Y1 (Yv.indexRow rfl ss_22 (i := 1) rfl eV eV (fun hg => ⟨rfl, by omega⟩)) (nl ?_)
   refine p1 11 ?_
   refine Y1 (Yv.fieldEp rfl fo_51_4 eV) (nl ?_)
   refine p1 12 ?_
   refine AWL.storeEp1 (i := 1) rfl rfl rfl ag_49 rfl (E rfl rfl) (E rfl rfl) rfl rfl (by rw [len_funs]; omega) (nl ?_)
   refine AWP.done (by kernel_rfl) ?_
   exact ⟨(A2, c2), trivial, (su (su (su (su (su (su sn)))))), rfl⟩
  rintro ⟨A2, c2⟩ hmid
  refine rs (yf fo_25_0 ?_)
  refine yl ag_22 2 ?_
  refine ym ?_
  refine Y1 (Yv.indexRow rfl ss_22 (i := 1) rfl eV eV (fun hg => ⟨rfl, by omega⟩)) ?_
  refine Y1 (Yv.fieldEp rfl fo_51_4 eV) ?_
  refine Y1 (Yv.loadEp rfl ag_49 (i := 1) rfl eV (fun hg => set_get _ (by rw [len_funs]; omega))) ?_
  refine Y1 (Yv.lenV rfl so_49 eV) ?_
  refine ym (nl ?_)
  refine AW.block ?_
  refine AW.loop (fun (i : Nat) => [(1, true, pv b1), (2, true, pv b2), (3, true, .v (.int .i64 (k : Int))), (10, true, .v (.slice A1 p.funs.length c1)), (11, true, .v (.int .i64 (p.funs.length : Int))), (12, true, .v (.int .i64 (k : Int))), (33, true, .v (.int .i64 ((p.funs.getD k default).code.length : Int))), (34, true, .v (.int .i64 (i : Int)))]) (fun (i : Nat) => [.row A2 (p.funs.getD k default).code.length c2 58 11 ((p.funs.getD k default).code.flatMap insCells), .row A1 p.funs.length c1 51 5 ((p.funs.flatMap fnCells).set (k * 5 + 4) (.v (.slice A2 (p.funs.getD k default).code.length c2))), .box b1 25 [.v (.slice A1 p.funs.length c1), .sl 1 (p.data.map u8), zi p.zero], .box b2 25 [nilT, nilT, zi 0]]) (fun (i : Nat) => i ≤ (p.funs.getD k default).code.length) (fun (i : Nat) => (p.funs.getD k default).code.length - i) 0 ?_ ?_ ?_ ?_
  ·exact Nat.zero_le _
  ·exact (su (su (su (su (su (su (su (su sn))))))))
  ·rfl
  intro i hi0
  refine rs (Y1 (Yv.lss rfl eV eV) (nl ?_))
  refine AW.seq ?_
  refine AW.cond rfl (fun h1t => ?_) (fun h1f => ?_)
  ·try replace h1t := odt h1t
   have hi : i < (p.funs.getD k default).code.length := by omega
   have hia := (hfi.ins _ (getD_mem hi)).args
   refine AW.skip ?_
   refine AW.seq ?_
   refine AW.block ?_
   refine rs (ym ?_)
   refine ya ?_
   refine AW.regionP rfl ?_
   refine T1 (i := 0) rfl (freeField rfl fo_25_0 (E rfl rfl)) ?_
   refine T1 (i := 2) rfl (freeMove rfl (E rfl rfl)) ?_
   refine T1 (i := 6) rfl (freeMove rfl (E rfl rfl)) ?_
   refine T1 (i := 7) rfl (freeField rfl fo_25_0 (E rfl rfl)) ?_
   refine T1 (i := 9) rfl (freeMove rfl (E rfl rfl)) ?_
   refine T1 (i := 13) rfl (freeMove rfl (E rfl rfl)) ?_
   refine AWP.two (i := 1) (j := 8) (by kernel_rfl) rfl rfl ?_ ?_
   ·refine yl ag_22 2 (nl ?_)
    refine T1 (i := 3) rfl (freeIdxRow (i := 1) rfl ss_22 rfl (E rfl rfl) (E rfl rfl) ⟨rfl, by omega⟩) ?_
    refine T1 (i := 4) rfl (freeFieldEp rfl fo_51_4 (E rfl rfl)) ?_
    refine AWP.two (i := 5) (j := 8) (by kernel_rfl) rfl rfl ?_ ?_
    ·refine Y1 (Yv.loadEp rfl ag_49 (i := 1) rfl eV (fun hg => set_get _ (by rw [len_funs]; omega))) (nl ?_)
     refine p1 8 ?_
     refine yl ag_22 2 (nl ?_)
     refine p1 10 ?_
     refine Y1 (Yv.indexRow rfl ss_22 (i := 1) rfl eV eV (fun hg => ⟨rfl, by omega⟩)) (nl ?_)
     refine p1 11 ?_
     refine Y1 (Yv.fieldEp rfl fo_51_4 eV) (nl ?_)
     refine p1 12 ?_
     refine Y1 (Yv.loadEp rfl ag_49 (i := 1) rfl eV (fun hg => set_get _ (by rw [len_funs]; omega))) (nl ?_)
     refine p1 14 ?_
     refine Y1 (Yv.indexRow rfl ss_49 (i := 0) rfl eV eV (fun hg => ⟨rfl, by omega⟩)) (nl ?_)
     refine p1 15 ?_
     refine Y1 (Yv.fieldEp rfl fo_58_10 eV) (nl ?_)
     refine p1 16 ?_
     refine Y1 (Yv.loadEp rfl ag_47 (i := 0) rfl eV (fun hg => iargs_at (by omega))) (nl ?_)
     refine p1 17 ?_
     refine AWL.callT rfl rfl (B rfl) rfl ce_47 (E rfl rfl) (evsC (E rfl rfl) evs0) (clone47 ((p.funs.getD k default).code.getD i default).args hia) ?_
     rintro t54 S54 rfl
     refine nl ?_
     refine p1 18 ?_
     refine Y1 (Yv.indexRow rfl ss_49 (i := 0) rfl eV eV (fun hg => ⟨rfl, by omega⟩)) (nl ?_)
     refine p1 19 ?_
     refine Y1 (Yv.fieldEp rfl fo_58_10 eV) (nl ?_)
     refine p1 20 ?_
     refine AWL.storeEp1 (i := 0) rfl rfl rfl ag_47 rfl (E rfl rfl) (E rfl rfl) rfl rfl (by rw [len_code]; omega) (nl ?_)
     refine AWP.done (by kernel_rfl) ?_
     rw [set_args (by omega)]
     refine AW.region ?_
     refine Y1 (Yv.addN_i64 rfl eV eV (fun hg => by omega)) ?_
     refine ym (nl ?_)
     refine ⟨i + 1, by omega, by omega, (su (su (su (su (su (su (su (Sub.cons rfl (by simp) Sub.nil)))))))), rfl⟩
    refine yl ag_22 2 (nl ?_)
    refine T1 (i := 10) rfl (freeIdxRow (i := 1) rfl ss_22 rfl (E rfl rfl) (E rfl rfl) ⟨rfl, by omega⟩) ?_
    refine T1 (i := 11) rfl (freeFieldEp rfl fo_51_4 (E rfl rfl)) ?_
    refine AWP.two (i := 5) (j := 12) (by kernel_rfl) rfl rfl ?_ ?_
    ·refine Y1 (Yv.loadEp rfl ag_49 (i := 1) rfl eV (fun hg => set_get _ (by rw [len_funs]; omega))) (nl ?_)
     refine p1 12 ?_
     refine Y1 (Yv.loadEp rfl ag_49 (i := 1) rfl eV (fun hg => set_get _ (by rw [len_funs]; omega))) (nl ?_)
     refine p1 14 ?_
     refine Y1 (Yv.indexRow rfl ss_49 (i := 0) rfl eV eV (fun hg => ⟨rfl, by omega⟩)) (nl ?_)
     refine p1 15 ?_
     refine Y1 (Yv.fieldEp rfl fo_58_10 eV) (nl ?_)
     refine p1 16 ?_
     refine Y1 (Yv.loadEp rfl ag_47 (i := 0) rfl eV (fun hg => iargs_at (by omega))) (nl ?_)
     refine p1 17 ?_
     refine AWL.callT rfl rfl (B rfl) rfl ce_47 (E rfl rfl) (evsC (E rfl rfl) evs0) (clone47 ((p.funs.getD k default).code.getD i default).args hia) ?_
     rintro t54 S54 rfl
     refine nl ?_
     refine p1 18 ?_
     refine Y1 (Yv.indexRow rfl ss_49 (i := 0) rfl eV eV (fun hg => ⟨rfl, by omega⟩)) (nl ?_)
     refine p1 19 ?_
     refine Y1 (Yv.fieldEp rfl fo_58_10 eV) (nl ?_)
     refine p1 20 ?_
     refine AWL.storeEp1 (i := 0) rfl rfl rfl ag_47 rfl (E rfl rfl) (E rfl rfl) rfl rfl (by rw [len_code]; omega) (nl ?_)
     refine AWP.done (by kernel_rfl) ?_
     rw [set_args (by omega)]
     refine AW.region ?_
     refine Y1 (Yv.addN_i64 rfl eV eV (fun hg => by omega)) ?_
     refine ym (nl ?_)
     refine ⟨i + 1, by omega, by omega, (su (su (su (su (su (su (su (Sub.cons rfl (by simp) Sub.nil)))))))), rfl⟩
    refine Y1 (Yv.loadEp rfl ag_49 (i := 1) rfl eV (fun hg => set_get _ (by rw [len_funs]; omega))) (nl ?_)
    refine T1 (i := 14) rfl (freeIdxRow (i := 0) rfl ss_49 rfl (E rfl rfl) (E rfl rfl) ⟨rfl, by omega⟩) ?_
    refine T1 (i := 15) rfl (freeFieldEp rfl fo_58_10 (E rfl rfl)) ?_
    refine AWP.two (i := 5) (j := 16) (by kernel_rfl) rfl rfl ?_ ?_
    ·refine Y1 (Yv.loadEp rfl ag_49 (i := 1) rfl eV (fun hg => set_get _ (by rw [len_funs]; omega))) (nl ?_)
     refine p1 16 ?_
     refine Y1 (Yv.loadEp rfl ag_47 (i := 0) rfl eV (fun hg => iargs_at (by omega))) (nl ?_)
     refine p1 17 ?_
     refine AWL.callT rfl rfl (B rfl) rfl ce_47 (E rfl rfl) (evsC (E rfl rfl) evs0) (clone47 ((p.funs.getD k default).code.getD i default).args hia) ?_
     rintro t54 S54 rfl
     refine nl ?_
     refine p1 18 ?_
     refine Y1 (Yv.indexRow rfl ss_49 (i := 0) rfl eV eV (fun hg => ⟨rfl, by omega⟩)) (nl ?_)
     refine p1 19 ?_
     refine Y1 (Yv.fieldEp rfl fo_58_10 eV) (nl ?_)
     refine p1 20 ?_
     refine AWL.storeEp1 (i := 0) rfl rfl rfl ag_47 rfl (E rfl rfl) (E rfl rfl) rfl rfl (by rw [len_code]; omega) (nl ?_)
     refine AWP.done (by kernel_rfl) ?_
     rw [set_args (by omega)]
     refine AW.region ?_
     refine Y1 (Yv.addN_i64 rfl eV eV (fun hg => by omega)) ?_
     refine ym (nl ?_)
     refine ⟨i + 1, by omega, by omega, (su (su (su (su (su (su (su (Sub.cons rfl (by simp) Sub.nil)))))))), rfl⟩
    refine Y1 (Yv.loadEp rfl ag_47 (i := 0) rfl eV (fun hg => iargs_at (by omega))) (nl ?_)
    refine AWP.two (i := 5) (j := 17) (by kernel_rfl) rfl rfl ?_ ?_
    ·refine Y1 (Yv.loadEp rfl ag_49 (i := 1) rfl eV (fun hg => set_get _ (by rw [len_funs]; omega))) (nl ?_)
     refine p1 17 ?_
     refine AWL.callT rfl rfl (B rfl) rfl ce_47 (E rfl rfl) (evsC (E rfl rfl) evs0) (clone47 ((p.funs.getD k default).code.getD i default).args hia) ?_
     rintro t54 S54 rfl
     refine nl ?_
     refine p1 18 ?_
     refine Y1 (Yv.indexRow rfl ss_49 (i := 0) rfl eV eV (fun hg => ⟨rfl, by omega⟩)) (nl ?_)
     refine p1 19 ?_
     refine Y1 (Yv.fieldEp rfl fo_58_10 eV) (nl ?_)
     refine p1 20 ?_
     refine AWL.storeEp1 (i := 0) rfl rfl rfl ag_47 rfl (E rfl rfl) (E rfl rfl) rfl rfl (by rw [len_code]; omega) (nl ?_)
     refine AWP.done (by kernel_rfl) ?_
     rw [set_args (by omega)]
     refine AW.region ?_
     refine Y1 (Yv.addN_i64 rfl eV eV (fun hg => by omega)) ?_
     refine ym (nl ?_)
     refine ⟨i + 1, by omega, by omega, (su (su (su (su (su (su (su (Sub.cons rfl (by simp) Sub.nil)))))))), rfl⟩
    refine AWL.callT rfl rfl (B rfl) rfl ce_47 (E rfl rfl) (evsC (E rfl rfl) evs0) (clone47 ((p.funs.getD k default).code.getD i default).args hia) ?_
    rintro t54 S54 rfl
    refine nl ?_
    refine p1 5 ?_
    refine Y1 (Yv.loadEp rfl ag_49 (i := 1) rfl eV (fun hg => set_get _ (by rw [len_funs]; omega))) (nl ?_)
    refine p1 18 ?_
    refine Y1 (Yv.indexRow rfl ss_49 (i := 0) rfl eV eV (fun hg => ⟨rfl, by omega⟩)) (nl ?_)
    refine p1 19 ?_
    refine Y1 (Yv.fieldEp rfl fo_58_10 eV) (nl ?_)
    refine p1 20 ?_
    refine AWL.storeEp1 (i := 0) rfl rfl rfl ag_47 rfl (E rfl rfl) (E rfl rfl) rfl rfl (by rw [len_code]; omega) (nl ?_)
    refine AWP.done (by kernel_rfl) ?_
    rw [set_args (by omega)]
    refine AW.region ?_
    refine Y1 (Yv.addN_i64 rfl eV eV (fun hg => by omega)) ?_
    refine ym (nl ?_)
    refine ⟨i + 1, by omega, by omega, (su (su (su (su (su (su (su (Sub.cons rfl (by simp) Sub.nil)))))))), rfl⟩
   refine yl ag_22 2 (nl ?_)
   refine T1 (i := 10) rfl (freeIdxRow (i := 1) rfl ss_22 rfl (E rfl rfl) (E rfl rfl) ⟨rfl, by omega⟩) ?_
   refine T1 (i := 11) rfl (freeFieldEp rfl fo_51_4 (E rfl rfl)) ?_
   refine AWP.two (i := 1) (j := 12) (by kernel_rfl) rfl rfl ?_ ?_
   ·refine yl ag_22 2 (nl ?_)
    refine T1 (i := 3) rfl (freeIdxRow (i := 1) rfl ss_22 rfl (E rfl rfl) (E rfl rfl) ⟨rfl, by omega⟩) ?_
    refine T1 (i := 4) rfl (freeFieldEp rfl fo_51_4 (E rfl rfl)) ?_
    refine AWP.two (i := 5) (j := 12) (by kernel_rfl) rfl rfl ?_ ?_
    ·refine Y1 (Yv.loadEp rfl ag_49 (i := 1) rfl eV (fun hg => set_get _ (by rw [len_funs]; omega))) (nl ?_)
     refine p1 12 ?_
     refine Y1 (Yv.loadEp rfl ag_49 (i := 1) rfl eV (fun hg => set_get _ (by rw [len_funs]; omega))) (nl ?_)
     refine p1 14 ?_
     refine Y1 (Yv.indexRow rfl ss_49 (i := 0) rfl eV eV (fun hg => ⟨rfl, by omega⟩)) (nl ?_)
     refine p1 15 ?_
     refine Y1 (Yv.fieldEp rfl fo_58_10 eV) (nl ?_)
     refine p1 16 ?_
     refine Y1 (Yv.loadEp rfl ag_47 (i := 0) rfl eV (fun hg => iargs_at (by omega))) (nl ?_)
     refine p1 17 ?_
     refine AWL.callT rfl rfl (B rfl) rfl ce_47 (E rfl rfl) (evsC (E rfl rfl) evs0) (clone47 ((p.funs.getD k default).code.getD i default).args hia) ?_
     rintro t54 S54 rfl
     refine nl ?_
     refine p1 18 ?_
     refine Y1 (Yv.indexRow rfl ss_49 (i := 0) rfl eV eV (fun hg => ⟨rfl, by omega⟩)) (nl ?_)
     refine p1 19 ?_
     refine Y1 (Yv.fieldEp rfl fo_58_10 eV) (nl ?_)
     refine p1 20 ?_
     refine AWL.storeEp1 (i := 0) rfl rfl rfl ag_47 rfl (E rfl rfl) (E rfl rfl) rfl rfl (by rw [len_code]; omega) (nl ?_)
     refine AWP.done (by kernel_rfl) ?_
     rw [set_args (by omega)]
     refine AW.region ?_
     refine Y1 (Yv.addN_i64 rfl eV eV (fun hg => by omega)) ?_
     refine ym (nl ?_)
     refine ⟨i + 1, by omega, by omega, (su (su (su (su (su (su (su (Sub.cons rfl (by simp) Sub.nil)))))))), rfl⟩
    refine Y1 (Yv.loadEp rfl ag_49 (i := 1) rfl eV (fun hg => set_get _ (by rw [len_funs]; omega))) (nl ?_)
    refine T1 (i := 14) rfl (freeIdxRow (i := 0) rfl ss_49 rfl (E rfl rfl) (E rfl rfl) ⟨rfl, by omega⟩) ?_
    refine T1 (i := 15) rfl (freeFieldEp rfl fo_58_10 (E rfl rfl)) ?_
    refine AWP.two (i := 5) (j := 16) (by kernel_rfl) rfl rfl ?_ ?_
    ·refine Y1 (Yv.loadEp rfl ag_49 (i := 1) rfl eV (fun hg => set_get _ (by rw [len_funs]; omega))) (nl ?_)
     refine p1 16 ?_
     refine Y1 (Yv.loadEp rfl ag_47 (i := 0) rfl eV (fun hg => iargs_at (by omega))) (nl ?_)
     refine p1 17 ?_
     refine AWL.callT rfl rfl (B rfl) rfl ce_47 (E rfl rfl) (evsC (E rfl rfl) evs0) (clone47 ((p.funs.getD k default).code.getD i default).args hia) ?_
     rintro t54 S54 rfl
     refine nl ?_
     refine p1 18 ?_
     refine Y1 (Yv.indexRow rfl ss_49 (i := 0) rfl eV eV (fun hg => ⟨rfl, by omega⟩)) (nl ?_)
     refine p1 19 ?_
     refine Y1 (Yv.fieldEp rfl fo_58_10 eV) (nl ?_)
     refine p1 20 ?_
     refine AWL.storeEp1 (i := 0) rfl rfl rfl ag_47 rfl (E rfl rfl) (E rfl rfl) rfl rfl (by rw [len_code]; omega) (nl ?_)
     refine AWP.done (by kernel_rfl) ?_
     rw [set_args (by omega)]
     refine AW.region ?_
     refine Y1 (Yv.addN_i64 rfl eV eV (fun hg => by omega)) ?_
     refine ym (nl ?_)
     refine ⟨i + 1, by omega, by omega, (su (su (su (su (su (su (su (Sub.cons rfl (by simp) Sub.nil)))))))), rfl⟩
    refine Y1 (Yv.loadEp rfl ag_47 (i := 0) rfl eV (fun hg => iargs_at (by omega))) (nl ?_)
    refine AWP.two (i := 5) (j := 17) (by kernel_rfl) rfl rfl ?_ ?_
    ·refine Y1 (Yv.loadEp rfl ag_49 (i := 1) rfl eV (fun hg => set_get _ (by rw [len_funs]; omega))) (nl ?_)
     refine p1 17 ?_
     refine AWL.callT rfl rfl (B rfl) rfl ce_47 (E rfl rfl) (evsC (E rfl rfl) evs0) (clone47 ((p.funs.getD k default).code.getD i default).args hia) ?_
     rintro t54 S54 rfl
     refine nl ?_
     refine p1 18 ?_
     refine Y1 (Yv.indexRow rfl ss_49 (i := 0) rfl eV eV (fun hg => ⟨rfl, by omega⟩)) (nl ?_)
     refine p1 19 ?_
     refine Y1 (Yv.fieldEp rfl fo_58_10 eV) (nl ?_)
     refine p1 20 ?_
     refine AWL.storeEp1 (i := 0) rfl rfl rfl ag_47 rfl (E rfl rfl) (E rfl rfl) rfl rfl (by rw [len_code]; omega) (nl ?_)
     refine AWP.done (by kernel_rfl) ?_
     rw [set_args (by omega)]
     refine AW.region ?_
     refine Y1 (Yv.addN_i64 rfl eV eV (fun hg => by omega)) ?_
     refine ym (nl ?_)
     refine ⟨i + 1, by omega, by omega, (su (su (su (su (su (su (su (Sub.cons rfl (by simp) Sub.nil)))))))), rfl⟩
    refine AWL.callT rfl rfl (B rfl) rfl ce_47 (E rfl rfl) (evsC (E rfl rfl) evs0) (clone47 ((p.funs.getD k default).code.getD i default).args hia) ?_
    rintro t54 S54 rfl
    refine nl ?_
    refine p1 5 ?_
    refine Y1 (Yv.loadEp rfl ag_49 (i := 1) rfl eV (fun hg => set_get _ (by rw [len_funs]; omega))) (nl ?_)
    refine p1 18 ?_
    refine Y1 (Yv.indexRow rfl ss_49 (i := 0) rfl eV eV (fun hg => ⟨rfl, by omega⟩)) (nl ?_)
    refine p1 19 ?_
    refine Y1 (Yv.fieldEp rfl fo_58_10 eV) (nl ?_)
    refine p1 20 ?_
    refine AWL.storeEp1 (i := 0) rfl rfl rfl ag_47 rfl (E rfl rfl) (E rfl rfl) rfl rfl (by rw [len_code]; omega) (nl ?_)
    refine AWP.done (by kernel_rfl) ?_
    rw [set_args (by omega)]
    refine AW.region ?_
    refine Y1 (Yv.addN_i64 rfl eV eV (fun hg => by omega)) ?_
    refine ym (nl ?_)
    refine ⟨i + 1, by omega, by omega, (su (su (su (su (su (su (su (Sub.cons rfl (by simp) Sub.nil)))))))), rfl⟩
   refine Y1 (Yv.loadEp rfl ag_49 (i := 1) rfl eV (fun hg => set_get _ (by rw [len_funs]; omega))) (nl ?_)
   refine T1 (i := 14) rfl (freeIdxRow (i := 0) rfl ss_49 rfl (E rfl rfl) (E rfl rfl) ⟨rfl, by omega⟩) ?_
   refine T1 (i := 15) rfl (freeFieldEp rfl fo_58_10 (E rfl rfl)) ?_
   refine AWP.two (i := 1) (j := 16) (by kernel_rfl) rfl rfl ?_ ?_
   ·refine yl ag_22 2 (nl ?_)
    refine T1 (i := 3) rfl (freeIdxRow (i := 1) rfl ss_22 rfl (E rfl rfl) (E rfl rfl) ⟨rfl, by omega⟩) ?_
    refine T1 (i := 4) rfl (freeFieldEp rfl fo_51_4 (E rfl rfl)) ?_
    refine AWP.two (i := 5) (j := 16) (by kernel_rfl) rfl rfl ?_ ?_
    ·refine Y1 (Yv.loadEp rfl ag_49 (i := 1) rfl eV (fun hg => set_get _ (by rw [len_funs]; omega))) (nl ?_)
     refine p1 16 ?_
     refine Y1 (Yv.loadEp rfl ag_47 (i := 0) rfl eV (fun hg => iargs_at (by omega))) (nl ?_)
     refine p1 17 ?_
     refine AWL.callT rfl rfl (B rfl) rfl ce_47 (E rfl rfl) (evsC (E rfl rfl) evs0) (clone47 ((p.funs.getD k default).code.getD i default).args hia) ?_
     rintro t54 S54 rfl
     refine nl ?_
     refine p1 18 ?_
     refine Y1 (Yv.indexRow rfl ss_49 (i := 0) rfl eV eV (fun hg => ⟨rfl, by omega⟩)) (nl ?_)
     refine p1 19 ?_
     refine Y1 (Yv.fieldEp rfl fo_58_10 eV) (nl ?_)
     refine p1 20 ?_
     refine AWL.storeEp1 (i := 0) rfl rfl rfl ag_47 rfl (E rfl rfl) (E rfl rfl) rfl rfl (by rw [len_code]; omega) (nl ?_)
     refine AWP.done (by kernel_rfl) ?_
     rw [set_args (by omega)]
     refine AW.region ?_
     refine Y1 (Yv.addN_i64 rfl eV eV (fun hg => by omega)) ?_
     refine ym (nl ?_)
     refine ⟨i + 1, by omega, by omega, (su (su (su (su (su (su (su (Sub.cons rfl (by simp) Sub.nil)))))))), rfl⟩
    refine Y1 (Yv.loadEp rfl ag_47 (i := 0) rfl eV (fun hg => iargs_at (by omega))) (nl ?_)
    refine AWP.two (i := 5) (j := 17) (by kernel_rfl) rfl rfl ?_ ?_
    ·refine Y1 (Yv.loadEp rfl ag_49 (i := 1) rfl eV (fun hg => set_get _ (by rw [len_funs]; omega))) (nl ?_)
     refine p1 17 ?_
     refine AWL.callT rfl rfl (B rfl) rfl ce_47 (E rfl rfl) (evsC (E rfl rfl) evs0) (clone47 ((p.funs.getD k default).code.getD i default).args hia) ?_
     rintro t54 S54 rfl
     refine nl ?_
     refine p1 18 ?_
     refine Y1 (Yv.indexRow rfl ss_49 (i := 0) rfl eV eV (fun hg => ⟨rfl, by omega⟩)) (nl ?_)
     refine p1 19 ?_
     refine Y1 (Yv.fieldEp rfl fo_58_10 eV) (nl ?_)
     refine p1 20 ?_
     refine AWL.storeEp1 (i := 0) rfl rfl rfl ag_47 rfl (E rfl rfl) (E rfl rfl) rfl rfl (by rw [len_code]; omega) (nl ?_)
     refine AWP.done (by kernel_rfl) ?_
     rw [set_args (by omega)]
     refine AW.region ?_
     refine Y1 (Yv.addN_i64 rfl eV eV (fun hg => by omega)) ?_
     refine ym (nl ?_)
     refine ⟨i + 1, by omega, by omega, (su (su (su (su (su (su (su (Sub.cons rfl (by simp) Sub.nil)))))))), rfl⟩
    refine AWL.callT rfl rfl (B rfl) rfl ce_47 (E rfl rfl) (evsC (E rfl rfl) evs0) (clone47 ((p.funs.getD k default).code.getD i default).args hia) ?_
    rintro t54 S54 rfl
    refine nl ?_
    refine p1 5 ?_
    refine Y1 (Yv.loadEp rfl ag_49 (i := 1) rfl eV (fun hg => set_get _ (by rw [len_funs]; omega))) (nl ?_)
    refine p1 18 ?_
    refine Y1 (Yv.indexRow rfl ss_49 (i := 0) rfl eV eV (fun hg => ⟨rfl, by omega⟩)) (nl ?_)
    refine p1 19 ?_
    refine Y1 (Yv.fieldEp rfl fo_58_10 eV) (nl ?_)
    refine p1 20 ?_
    refine AWL.storeEp1 (i := 0) rfl rfl rfl ag_47 rfl (E rfl rfl) (E rfl rfl) rfl rfl (by rw [len_code]; omega) (nl ?_)
    refine AWP.done (by kernel_rfl) ?_
    rw [set_args (by omega)]
    refine AW.region ?_
    refine Y1 (Yv.addN_i64 rfl eV eV (fun hg => by omega)) ?_
    refine ym (nl ?_)
    refine ⟨i + 1, by omega, by omega, (su (su (su (su (su (su (su (Sub.cons rfl (by simp) Sub.nil)))))))), rfl⟩
   refine Y1 (Yv.loadEp rfl ag_47 (i := 0) rfl eV (fun hg => iargs_at (by omega))) (nl ?_)
   refine AWP.two (i := 1) (j := 17) (by kernel_rfl) rfl rfl ?_ ?_
   ·refine yl ag_22 2 (nl ?_)
    refine T1 (i := 3) rfl (freeIdxRow (i := 1) rfl ss_22 rfl (E rfl rfl) (E rfl rfl) ⟨rfl, by omega⟩) ?_
    refine T1 (i := 4) rfl (freeFieldEp rfl fo_51_4 (E rfl rfl)) ?_
    refine AWP.two (i := 5) (j := 17) (by kernel_rfl) rfl rfl ?_ ?_
    ·refine Y1 (Yv.loadEp rfl ag_49 (i := 1) rfl eV (fun hg => set_get _ (by rw [len_funs]; omega))) (nl ?_)
     refine p1 17 ?_
     refine AWL.callT rfl rfl (B rfl) rfl ce_47 (E rfl rfl) (evsC (E rfl rfl) evs0) (clone47 ((p.funs.getD k default).code.getD i default).args hia) ?_
     rintro t54 S54 rfl
     refine nl ?_
     refine p1 18 ?_
     refine Y1 (Yv.indexRow rfl ss_49 (i := 0) rfl eV eV (fun hg => ⟨rfl, by omega⟩)) (nl ?_)
     refine p1 19 ?_
     refine Y1 (Yv.fieldEp rfl fo_58_10 eV) (nl ?_)
     refine p1 20 ?_
     refine AWL.storeEp1 (i := 0) rfl rfl rfl ag_47 rfl (E rfl rfl) (E rfl rfl) rfl rfl (by rw [len_code]; omega) (nl ?_)
     refine AWP.done (by kernel_rfl) ?_
     rw [set_args (by omega)]
     refine AW.region ?_
     refine Y1 (Yv.addN_i64 rfl eV eV (fun hg => by omega)) ?_
     refine ym (nl ?_)
     refine ⟨i + 1, by omega, by omega, (su (su (su (su (su (su (su (Sub.cons rfl (by simp) Sub.nil)))))))), rfl⟩
    refine AWL.callT rfl rfl (B rfl) rfl ce_47 (E rfl rfl) (evsC (E rfl rfl) evs0) (clone47 ((p.funs.getD k default).code.getD i default).args hia) ?_
    rintro t54 S54 rfl
    refine nl ?_
    refine p1 5 ?_
    refine Y1 (Yv.loadEp rfl ag_49 (i := 1) rfl eV (fun hg => set_get _ (by rw [len_funs]; omega))) (nl ?_)
    refine p1 18 ?_
    refine Y1 (Yv.indexRow rfl ss_49 (i := 0) rfl eV eV (fun hg => ⟨rfl, by omega⟩)) (nl ?_)
    refine p1 19 ?_
    refine Y1 (Yv.fieldEp rfl fo_58_10 eV) (nl ?_)
    refine p1 20 ?_
    refine AWL.storeEp1 (i := 0) rfl rfl rfl ag_47 rfl (E rfl rfl) (E rfl rfl) rfl rfl (by rw [len_code]; omega) (nl ?_)
    refine AWP.done (by kernel_rfl) ?_
    rw [set_args (by omega)]
    refine AW.region ?_
    refine Y1 (Yv.addN_i64 rfl eV eV (fun hg => by omega)) ?_
    refine ym (nl ?_)
    refine ⟨i + 1, by omega, by omega, (su (su (su (su (su (su (su (Sub.cons rfl (by simp) Sub.nil)))))))), rfl⟩
   refine AWL.callT rfl rfl (B rfl) rfl ce_47 (E rfl rfl) (evsC (E rfl rfl) evs0) (clone47 ((p.funs.getD k default).code.getD i default).args hia) ?_
   rintro t54 S54 rfl
   refine nl ?_
   refine p1 1 ?_
   refine yl ag_22 2 (nl ?_)
   refine p1 3 ?_
   refine Y1 (Yv.indexRow rfl ss_22 (i := 1) rfl eV eV (fun hg => ⟨rfl, by omega⟩)) (nl ?_)
   refine p1 4 ?_
   refine Y1 (Yv.fieldEp rfl fo_51_4 eV) (nl ?_)
   refine p1 5 ?_
   refine Y1 (Yv.loadEp rfl ag_49 (i := 1) rfl eV (fun hg => set_get _ (by rw [len_funs]; omega))) (nl ?_)
   refine p1 18 ?_
   refine Y1 (Yv.indexRow rfl ss_49 (i := 0) rfl eV eV (fun hg => ⟨rfl, by omega⟩)) (nl ?_)
   refine p1 19 ?_
   refine Y1 (Yv.fieldEp rfl fo_58_10 eV) (nl ?_)
   refine p1 20 ?_
   refine AWL.storeEp1 (i := 0) rfl rfl rfl ag_47 rfl (E rfl rfl) (E rfl rfl) rfl rfl (by rw [len_code]; omega) (nl ?_)
   refine AWP.done (by kernel_rfl) ?_
   rw [set_args (by omega)]
   refine AW.region ?_
   refine Y1 (Yv.addN_i64 rfl eV eV (fun hg => by omega)) ?_
   refine ym (nl ?_)
   refine ⟨i + 1, by omega, by omega, (su (su (su (su (su (su (su (Sub.cons rfl (by simp) Sub.nil)))))))), rfl⟩
  try replace h1f := odf h1f
  refine AW.exit ?_
  refine AW.freezeRow 0 0 (k * 5 + 4) rfl (by decide) rfl (set_get _ (by rw [len_funs]; omega)) ?_
  refine AW.eqS (S' := [.row A1 p.funs.length c1 51 5 (p.funs.flatMap fnCells), .box b1 25 [.v (.slice A1 p.funs.length c1), .sl 1 (p.data.map u8), zi p.zero], .box b2 25 [nilT, nilT, zi 0]]) (by
   show [Ent.row _ _ _ _ _ (List.set _ _ _), _, _] = _
   rw [set_same hk]) ?_
  refine AW.region ?_
  refine Y1 (Yv.addN_i64 rfl eV eV (fun hg => by omega)) ?_
  refine ym (nl ?_)
  refine ⟨k + 1, by omega, by omega, (su (su (su (su (Sub.cons rfl (by simp) Sub.nil))))), rfl⟩
 try replace h0f := odf h0f
 refine AW.exit ?_
 refine AW.freezeCell 0 0 0 rfl (by decide) rfl rfl ?_
 refine rs (yf fo_25_1 ?_)
 refine yl ag_23 0 ?_
 refine AWL.callT rfl rfl (B rfl) rfl ce_48 (E rfl rfl) (evsC (E rfl rfl) evs0) (clone48 p.data hpd) ?_
 rintro t61 S61 rfl
 refine yf fo_25_1 ?_
 refine AWL.storeBox (i := 0) rfl rfl rfl ag_23 rfl (E rfl rfl) (E rfl rfl) rfl rfl nB (nl ?_)
 refine rs (Y1 (Yv.loadBoxA rfl ag_25 (i := 0) rfl eV rfl rfl) ?_)
 refine AWL.storeBox (i := 1) rfl rfl rfl ag_25 rfl (E rfl rfl) (E rfl rfl) rfl rfl nB (nl ?_)
 refine AW.ret (retI (.cellA (i := 1) rfl ag_25 rfl rfl rfl .nil) ?_)
 rfl

end Go.Proofs.Ytlfklgganokgdaa
