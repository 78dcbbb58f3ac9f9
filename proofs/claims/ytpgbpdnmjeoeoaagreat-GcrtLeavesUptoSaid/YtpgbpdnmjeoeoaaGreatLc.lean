/-
  TEXTS JOINED: VWk14, VDo, VWk15, VDr, VWk16, VDv, VWk17, VDf, VDn, VWk19, VRg, Wz, We0, Wf, Wk32, Wk33, Zk3, Zb, Zk4, Zk5, Zk6, Wk25, Wk26, Zk7, Wk29, Zc, Zk8, Zk9.
-/
import Derived.Test.YtpgbpdnmjeoeoaaGreatLb
set_option linter.unusedSimpArgs false
set_option linter.unusedVariables false
set_option linter.unusedSectionVars false
set_option linter.unnecessarySimpa false
namespace Go.Proofs.YtpgbpdnmjeoeoaaGreat.V
open Go Go.RowKit

set_option maxHeartbeats 1000000 in
theorem say57 (b : Nat) (ds : DS) (n : Nat) (hw : PB n (pl ds)) (hn : n ≤ 1099511627776) (k : Int) (name text : List UInt8) (ht : text.length ≤ 1099511627776) :
    ACalls Tryz.prog 138 [wp b, .v (.int .i64 k), sv name, sv text] (DSt b ds) (fun t S => t = .tup [] ∧ ∃ A c, S = DSt b { ds with trace := sayF k name text ds.trace, tA := A, tc := c }) := by
 obtain ⟨ho, htr, htx, hfl, hpl, hsi, hnf⟩ := hw
 have ho : ds.opn.length = 19 := ho
 have htr : ds.trace.length ≤ n := htr
 have hsi : ds.stdin.length ≤ n := hsi
 have hnf : ds.files.length ≤ n := by have h := hnf; unfold pl at h; rwa [List.length_map] at h
 have htxt : ∀ e ∈ ds.trace, e.text.length ≤ n := htx
 refine ACalls.intro Tryz.func138 rfl Tryz.ntmps138 nB rfl fun X w0 => ?_
 refine rs (ym ?_)
 refine Y1 (Yv.nilChk rfl eV) ?_
 refine yf fo_84_3 ?_
 refine yl ag_82 0 ?_
 refine Y1 (Yv.lenV rfl so_82 eV) ?_
 refine ya ?_
 refine AW.seq ?_
 refine rs (ym ?_)
 refine Y1 (Yv.eqlL rfl eV eV) (nl ?_)
 refine AW.cond rfl (fun h0t => ?_) (fun h0f => ?_)
 ·
  try replace h0t := odt h0t
  refine AW.ret (retI .nil ?_)
  exact ⟨rfl, ds.tA, ds.tc, by rw [h0t, sayF_nil]⟩
 try replace h0f := odf h0f
 refine AW.skip ?_
 refine AW.seq ?_
 refine rs (ym ?_)
 refine Y1 (Yv.gtr rfl eV eV) ?_
 refine ym ?_
 refine gT (Yv.move rfl eV) ?_
 refine gT (Yv.nilChk rfl (Eg rfl rfl id)) ?_
 refine gT (Yv.fieldBox rfl fo_84_3 (Eg rfl rfl id)) ?_
 refine gT (Yv.loadBox rfl ag_82 (i := 0) rfl (Eg rfl rfl id) rfl) ?_
 refine gT (Yv.move rfl eV) ?_
 refine gT (Yv.subN_i64 rfl (Eg rfl rfl id) (E rfl rfl) (fun hg => by first | omega | (simp only [Bool.and_eq_true, Bool.or_eq_false_iff, Bool.not_eq_true', Bool.not_eq_false', decide_eq_true_eq, decide_eq_false_iff_not] at hg; omega))) ?_
 refine gT (Yv.indexRow (j := ds.trace.length - 1) rfl ss_82 (i := 3) rfl (Eg rfl rfl id) (Eg rfl rfl id) (fun hg => by first | exact ⟨by omega, by omega⟩ | (simp only [Bool.or_eq_true, Bool.and_eq_true, Bool.or_eq_false_iff, Bool.and_eq_false_iff, Bool.not_eq_true', Bool.not_eq_false', decide_eq_true_eq, decide_eq_false_iff_not, Decidable.not_not] at hg; exact ⟨by omega, by omega⟩))) ?_
 refine gT (Yv.fieldEp rfl fo_86_0 (Eg rfl rfl id)) ?_
 refine gT (Yv.loadEp rfl ag_3 (i := 3) rfl (Eg rfl rfl id) (fun hg => evk_at (by first | omega | (simp only [Bool.or_eq_true, Bool.and_eq_true, Bool.or_eq_false_iff, Bool.and_eq_false_iff, Bool.not_eq_true', Bool.not_eq_false', decide_eq_true_eq, decide_eq_false_iff_not, Decidable.not_not] at hg; omega)))) ?_
 refine gT (Yv.move rfl eV) ?_
 refine gT (Yv.eql rfl (Eg rfl rfl id) (Eg rfl rfl id)) ?_
 refine Y1 (Yv.pickAnd rfl eV (Eg rfl rfl id)) ?_
 refine ym ?_
 refine gT (Yv.move rfl eV) ?_
 refine gT (Yv.nilChk rfl (Eg rfl rfl id)) ?_
 refine gT (Yv.fieldBox rfl fo_84_3 (Eg rfl rfl id)) ?_
 refine gT (Yv.loadBox rfl ag_82 (i := 0) rfl (Eg rfl rfl id) rfl) ?_
 refine gT (Yv.move rfl eV) ?_
 refine gT (Yv.subN_i64 rfl (Eg rfl rfl id) (E rfl rfl) (fun hg => by first | omega | (simp only [Bool.and_eq_true, Bool.or_eq_false_iff, Bool.not_eq_true', Bool.not_eq_false', decide_eq_true_eq, decide_eq_false_iff_not] at hg; omega))) ?_
 refine gT (Yv.indexRow (j := ds.trace.length - 1) rfl ss_82 (i := 3) rfl (Eg rfl rfl id) (Eg rfl rfl id) (fun hg => by first | exact ⟨by omega, by omega⟩ | (simp only [Bool.or_eq_true, Bool.and_eq_true, Bool.or_eq_false_iff, Bool.and_eq_false_iff, Bool.not_eq_true', Bool.not_eq_false', decide_eq_true_eq, decide_eq_false_iff_not, Decidable.not_not] at hg; exact ⟨by omega, by omega⟩))) ?_
 refine gT (Yv.fieldEp rfl fo_86_1 (Eg rfl rfl id)) ?_
 refine gT (Yv.loadEp rfl ag_9 (i := 3) rfl (Eg rfl rfl id) (fun hg => evn_at (by first | omega | (simp only [Bool.or_eq_true, Bool.and_eq_true, Bool.or_eq_false_iff, Bool.and_eq_false_iff, Bool.not_eq_true', Bool.not_eq_false', decide_eq_true_eq, decide_eq_false_iff_not, Decidable.not_not] at hg; omega)))) ?_
 refine gT (Yv.move rfl eV) ?_
 refine gT (Yv.eqlL rfl (Eg rfl rfl id) (Eg rfl rfl id)) ?_
 refine Y1 (Yv.pickAnd rfl eV (Eg rfl rfl id)) (nl ?_)
 refine AW.cond rfl (fun h1t => ?_) (fun h1f => ?_)
 ·
  try replace h1t := odt h1t
  simp only [Bool.or_eq_true, Bool.and_eq_true, Bool.or_eq_false_iff, Bool.and_eq_false_iff, Bool.not_eq_true', Bool.not_eq_false', decide_eq_true_eq, decide_eq_false_iff_not, Decidable.not_not] at h1t
  obtain ⟨⟨g1, g2⟩, g3⟩ := h1t
  have hlast := htxt _ (last_mem (l := ds.trace) (by omega))
  unfold lastE at hlast
  refine AW.rseqP rfl ?_
  refine AWP.phase [true, true, true, true, true, true, true, true, true, true, true, true, true, true, true, true, true, true, true] 1 rfl (by kernel_rfl) (by kernel_rfl) ?_
  refine qm ?_
  refine Q1 (Yv.nilChk rfl eV) ?_
  refine qf fo_84_3 ?_
  refine ql ag_82 0 ?_
  refine qm ?_
  refine Q1 (Yv.subN_i64 rfl eV eV (fun hg => by omega)) ?_
  refine qm ?_
  refine Q1 (Yv.nilChk rfl eV) ?_
  refine qf fo_84_3 ?_
  refine ql ag_82 0 ?_
  refine qm ?_
  refine Q1 (Yv.subN_i64 rfl eV eV (fun hg => by omega)) ?_
  refine Q1 (Yv.indexRow (j := ds.trace.length - 1) rfl ss_82 (i := 3) rfl (E rfl rfl) (E rfl rfl) (fun hg => by first | exact ⟨by omega, by omega⟩ | (simp only [Bool.or_eq_true, Bool.and_eq_true, Bool.or_eq_false_iff, Bool.and_eq_false_iff, Bool.not_eq_true', Bool.not_eq_false', decide_eq_true_eq, decide_eq_false_iff_not, Decidable.not_not] at hg; exact ⟨by omega, by omega⟩))) ?_
  refine Q1 (Yv.fieldEp rfl fo_86_2 eV) ?_
  refine Q1 (Yv.loadEp rfl ag_9 (i := 3) rfl (E rfl rfl) (fun hg => evt_at (by first | omega | (simp only [Bool.or_eq_true, Bool.and_eq_true, Bool.or_eq_false_iff, Bool.and_eq_false_iff, Bool.not_eq_true', Bool.not_eq_false', decide_eq_true_eq, decide_eq_false_iff_not, Decidable.not_not] at hg; omega)))) ?_
  refine qm ?_
  refine Q1 (Yv.addL rfl eV eV (fun hg => by first | omega | (simp only [List.length_append, List.length_cons, List.length_nil]; omega))) ?_
  refine Q1 (Yv.indexRow (j := ds.trace.length - 1) rfl ss_82 (i := 3) rfl (E rfl rfl) (E rfl rfl) (fun hg => by first | exact ⟨by omega, by omega⟩ | (simp only [Bool.or_eq_true, Bool.and_eq_true, Bool.or_eq_false_iff, Bool.and_eq_false_iff, Bool.not_eq_true', Bool.not_eq_false', decide_eq_true_eq, decide_eq_false_iff_not, Decidable.not_not] at hg; exact ⟨by omega, by omega⟩))) ?_
  refine Q1 (Yv.fieldEp rfl fo_86_2 eV) ?_
  refine AWQ.nil ?_
  refine p1 19 ?_
  refine AWL.storeEp1 (i := 3) rfl rfl rfl ag_9 rfl (E rfl rfl) (E rfl rfl) rfl rfl (by rw [len_ev]; omega) (nl ?_)
  refine AWP.done (by kernel_rfl) ?_
  refine AW.ret (retI .nil ?_)
  exact ⟨rfl, ds.tA, ds.tc, (dst_more h0f ⟨by omega, g2, g3⟩).symm⟩
 try replace h1f := odf h1f
 have hno : ¬ (0 < ds.trace.length ∧ (lastE ds.trace).kind = k ∧ (lastE ds.trace).name = name) := fun q => by
  obtain ⟨q1, q2, q3⟩ := q
  unfold lastE at q2 q3
  rw [decide_eq_true (show (0 : Int) < ds.trace.length by omega), decide_eq_true q2, decide_eq_true q3] at h1f
  cases h1f
 refine AW.skip ?_
 refine AW.region ?_
 refine ym ?_
 refine ym ?_
 refine Y1 (Yv.nilChk rfl eV) ?_
 refine yf fo_84_3 ?_
 refine yl ag_82 0 ?_
 refine ym ?_
 refine ym ?_
 refine ym ?_
 refine Y1 (Yv.buildS rfl sh_86 (evpC eV (evpC eV (evpC eV evp0))) (fun _ => rfl)) ?_
 refine AWL.buildSliceE rfl rfl (B rfl) rfl el_82 (B rfl) rfl (evsC (E rfl rfl) evs0) nB rfl rfl ?_
 refine AWL.appendRow (i := 3) rfl rfl (B rfl) rfl el_82 (B rfl) rfl (E rfl rfl) (SrcT.sl so_82 (B rfl) (E rfl rfl) (m := 1) rfl) (by unfold maxLen; omega) (by omega) (fun A73 c73 => ?_)
 refine Y1 (Yv.nilChk rfl eV) ?_
 refine yf fo_84_3 ?_
 refine AWL.storeBox (i := 0) rfl rfl rfl ag_82 rfl (E rfl rfl) (E rfl rfl) rfl rfl nB (nl ?_)
 refine retN .nil ?_
 exact ⟨rfl, A73, c73, (dst_new h0f hno).symm⟩

set_option maxHeartbeats 2000000 in
theorem lay35F (b : Nat) (ds : DS) (n : Nat) (hnf : ds.files.length ≤ n) (hn : n ≤ 1099511627776) (f : FileR) (hfb : f.bytes.length ≤ 1099511627776) :
    ACalls Tryz.prog 43 [wp b, sv f.name, .v (.slice f.A f.bytes.length f.c)] (DSt b ds ++ [fileRow f]) (fun t S => t = .tup [] ∧ ∃ fs A c, Laid (nb f) (ds.files.map nb) (fs.map nb) ∧ S = DSt b { ds with files := fs, lA := A, lc := c }) := by
 refine ACalls.intro Tryz.func43 rfl Tryz.ntmps43 nB rfl fun X w0 => ?_
 refine rs (ym ?_)
 refine ym ?_
 refine Y1 (Yv.nilChk rfl eV) ?_
 refine yf fo_84_0 ?_
 refine yl ag_80 0 ?_
 refine ym ?_
 refine ym ?_
 refine Y1 (Yv.buildS rfl sh_141 (evpC eV (evpC eV evp0)) (fun _ => rfl)) ?_
 refine AWL.buildSliceE rfl rfl (B rfl) rfl el_80 (B rfl) rfl (evsC (E rfl rfl) evs0) nB rfl rfl ?_
 refine AWL.appendRow (i := 1) rfl rfl (B rfl) rfl el_80 (B rfl) rfl (E rfl rfl) (SrcT.sl so_80 (B rfl) (E rfl rfl) (m := 1) rfl) (by unfold maxLen; omega) (by omega) (fun A16 c16 => ?_)
 refine Y1 (Yv.nilChk rfl eV) ?_
 refine yf fo_84_0 ?_
 refine AWL.storeBox (i := 0) rfl rfl rfl ag_80 rfl (E rfl rfl) (E rfl rfl) rfl rfl nB (nl ?_)
 refine AW.eqS (S' := DSl b ds f ds.files.length A16 c16) (dsl_new (ds := ds) (f := f) (b := b)).symm ?_
 refine rs (ym ?_)
 refine Y1 (Yv.nilChk rfl eV) ?_
 refine yf fo_84_0 ?_
 refine yl ag_80 0 ?_
 refine Y1 (Yv.lenV rfl so_80 eV) ?_
 refine Y1 (Yv.subN_i64 rfl eV eV (fun hg => by omega)) ?_
 refine ya ?_
 refine AW.block ?_
 refine AW.loop (fun (i : Nat) => [(0, true, wp b), (6, true, .v (.int .i64 (i : Int)))]) (fun (i : Nat) => (DSl b ds f i A16 c16)) (fun (i : Nat) => i ≤ ds.files.length ∧ ∀ y ∈ ds.files.drop i, bl f.name y.name = true) (fun (i : Nat) => i) ds.files.length ?_ ?_ ?_ ?_
 ·exact ⟨Nat.le_refl _, fun y hy => by rw [List.drop_length] at hy; cases hy⟩
 ·exact (su (Sub.cons rfl (by simp) Sub.nil))
 ·rfl
 ·
  intro i hinv
  obtain ⟨hi, hall⟩ := hinv
  refine AW.seq ?_
  refine AW.rseqQ rfl (by kernel_rfl) ?_
  refine qm ?_
  refine Q1 (Yv.gtr rfl eV eV) ?_
  refine qm ?_
  refine kT (Yv.move rfl eV) ?_
  refine kT (Yv.nilChk rfl (Eg rfl rfl id)) ?_
  refine kT (Yv.fieldBox rfl fo_84_0 (Eg rfl rfl id)) ?_
  refine kT (Yv.loadBox rfl ag_80 (i := 0) rfl (Eg rfl rfl id) rfl) ?_
  refine kT (Yv.move rfl eV) ?_
  refine kT (Yv.indexRow (j := i) rfl ss_80 (i := 1) rfl (Eg rfl rfl id) (Eg rfl rfl id) (fun hg => by first | exact ⟨by omega, by omega⟩ | (simp only [Bool.or_eq_true, Bool.and_eq_true, Bool.or_eq_false_iff, Bool.and_eq_false_iff, Bool.not_eq_true', Bool.not_eq_false', decide_eq_true_eq, decide_eq_false_iff_not, Decidable.not_not] at hg; exact ⟨by omega, by omega⟩))) ?_
  refine kT (Yv.fieldEp rfl fo_141_0 (Eg rfl rfl id)) ?_
  refine kT (Yv.loadEp rfl ag_9 (i := 1) rfl (Eg rfl rfl id) (fun hg => lay_nm (by first | omega | (simp only [Bool.or_eq_true, Bool.and_eq_true, Bool.or_eq_false_iff, Bool.and_eq_false_iff, Bool.not_eq_true', Bool.not_eq_false', decide_eq_true_eq, decide_eq_false_iff_not, Decidable.not_not] at hg; omega)))) ?_
  refine kT (Yv.move rfl eV) ?_
  refine kT (Yv.nilChk rfl (Eg rfl rfl id)) ?_
  refine kT (Yv.fieldBox rfl fo_84_0 (Eg rfl rfl id)) ?_
  refine kT (Yv.loadBox rfl ag_80 (i := 0) rfl (Eg rfl rfl id) rfl) ?_
  refine kT (Yv.move rfl eV) ?_
  refine kT (Yv.subN_i64 rfl (Eg rfl rfl id) (E rfl rfl) (fun hg => by first | omega | (simp only [Bool.and_eq_true, Bool.or_eq_false_iff, Bool.not_eq_true', Bool.not_eq_false', decide_eq_true_eq, decide_eq_false_iff_not] at hg; omega))) ?_
  refine kT (Yv.indexRow (j := (i - 1)) rfl ss_80 (i := 1) rfl (Eg rfl rfl id) (Eg rfl rfl id) (fun hg => by first | exact ⟨by omega, by omega⟩ | (simp only [Bool.or_eq_true, Bool.and_eq_true, Bool.or_eq_false_iff, Bool.and_eq_false_iff, Bool.not_eq_true', Bool.not_eq_false', decide_eq_true_eq, decide_eq_false_iff_not, Decidable.not_not] at hg; exact ⟨by omega, by omega⟩))) ?_
  refine kT (Yv.fieldEp rfl fo_141_0 (Eg rfl rfl id)) ?_
  refine kT (Yv.loadEp rfl ag_9 (i := 1) rfl (Eg rfl rfl id) (fun hg => lay_nb (by first | omega | (simp only [Bool.or_eq_true, Bool.and_eq_true, Bool.or_eq_false_iff, Bool.and_eq_false_iff, Bool.not_eq_true', Bool.not_eq_false', decide_eq_true_eq, decide_eq_false_iff_not, Decidable.not_not] at hg; omega)) (by first | omega | (simp only [Bool.or_eq_true, Bool.and_eq_true, Bool.or_eq_false_iff, Bool.and_eq_false_iff, Bool.not_eq_true', Bool.not_eq_false', decide_eq_true_eq, decide_eq_false_iff_not, Decidable.not_not] at hg; omega)))) ?_
  refine kT (Yv.lssS rfl (Eg rfl rfl id) (Eg rfl rfl id)) ?_
  refine Q1 (Yv.pickAnd rfl eV (Eg rfl rfl id)) ?_
  refine AWQ.nil ?_
  refine AW.cond rfl (fun h0t => ?_) (fun h0f => ?_)
  ·
   try replace h0t := odt h0t
   simp only [Bool.or_eq_true, Bool.and_eq_true, Bool.or_eq_false_iff, Bool.and_eq_false_iff, Bool.not_eq_true', Bool.not_eq_false', decide_eq_true_eq, decide_eq_false_iff_not, Decidable.not_not] at h0t
   refine AW.skip ?_
   refine AW.seq ?_
   refine AW.block ?_
   refine AW.regionP rfl ?_
   refine T1 (i := 9) rfl (freeMove rfl (E rfl rfl)) ?_
   refine T1 (i := 10) rfl (freeSub_i64 rfl (E rfl rfl) (E rfl rfl) ⟨by omega, by omega⟩) ?_
   refine AWP.phase [true, true, true, true, true, true, true, true, true, false, false, true, true, true, true, true, true, true, true, true, true, true, true, true, true, true, true] 3 rfl (by kernel_rfl) (by kernel_rfl) ?_
   refine qm ?_
   refine Q1 (Yv.nilChk rfl eV) ?_
   refine qf fo_84_0 ?_
   refine ql ag_80 0 ?_
   refine qm ?_
   refine qm ?_
   refine Q1 (Yv.nilChk rfl eV) ?_
   refine qf fo_84_0 ?_
   refine ql ag_80 0 ?_
   refine qm ?_
   refine Q1 (Yv.nilChk rfl eV) ?_
   refine qf fo_84_0 ?_
   refine ql ag_80 0 ?_
   refine qm ?_
   refine Q1 (Yv.subN_i64 rfl eV eV (fun hg => by omega)) ?_
   refine Q1 (Yv.indexRow (j := (i - 1)) rfl ss_80 (i := 1) rfl (E rfl rfl) (E rfl rfl) (fun hg => by first | exact ⟨by omega, by omega⟩ | (simp only [Bool.or_eq_true, Bool.and_eq_true, Bool.or_eq_false_iff, Bool.and_eq_false_iff, Bool.not_eq_true', Bool.not_eq_false', decide_eq_true_eq, decide_eq_false_iff_not, Decidable.not_not] at hg; exact ⟨by omega, by omega⟩))) ?_
   refine Q1 (Yv.loadEpA (l' := fileCells (ds.files.getD (i - 1) default)) rfl ag_141 (i := 1) rfl eV (fun hg => ⟨by show List.take 2 (List.drop ((i - 1) * 2) _) = _; rw [cells_at (by rw [layL_len hi]; omega), layL_be hi (by omega)], rfl⟩)) ?_
   refine qm ?_
   refine Q1 (Yv.nilChk rfl eV) ?_
   refine qf fo_84_0 ?_
   refine ql ag_80 0 ?_
   refine qm ?_
   refine Q1 (Yv.indexRow (j := i) rfl ss_80 (i := 1) rfl (E rfl rfl) (E rfl rfl) (fun hg => by first | exact ⟨by omega, by omega⟩ | (simp only [Bool.or_eq_true, Bool.and_eq_true, Bool.or_eq_false_iff, Bool.and_eq_false_iff, Bool.not_eq_true', Bool.not_eq_false', decide_eq_true_eq, decide_eq_false_iff_not, Decidable.not_not] at hg; exact ⟨by omega, by omega⟩))) ?_
   refine Q1 (Yv.loadEpA (l' := fileCells f) rfl ag_141 (i := 1) rfl eV (fun hg => ⟨by show List.take 2 (List.drop (i * 2) _) = _; rw [cells_at (by rw [layL_len hi]; omega), layL_at hi], rfl⟩)) ?_
   refine Q1 (Yv.indexRow (j := i) rfl ss_80 (i := 1) rfl (E rfl rfl) (E rfl rfl) (fun hg => by first | exact ⟨by omega, by omega⟩ | (simp only [Bool.or_eq_true, Bool.and_eq_true, Bool.or_eq_false_iff, Bool.and_eq_false_iff, Bool.not_eq_true', Bool.not_eq_false', decide_eq_true_eq, decide_eq_false_iff_not, Decidable.not_not] at hg; exact ⟨by omega, by omega⟩))) ?_
   refine AWQ.nil ?_
   refine p1 27 ?_
   refine AWL.storeEp (i := 1) (m := 2) rfl rfl rfl ag_141 rfl (E rfl rfl) (E rfl rfl) rfl rfl (by decide) (by rw [len_files, layL_len hi]; omega) (nl ?_)
   refine p1 28 ?_
   refine Y1 (Yv.indexRow (j := (i - 1)) rfl ss_80 (i := 1) rfl (E rfl rfl) (E rfl rfl) (fun hg => by first | exact ⟨by omega, by omega⟩ | (simp only [Bool.or_eq_true, Bool.and_eq_true, Bool.or_eq_false_iff, Bool.and_eq_false_iff, Bool.not_eq_true', Bool.not_eq_false', decide_eq_true_eq, decide_eq_false_iff_not, Decidable.not_not] at hg; exact ⟨by omega, by omega⟩))) (nl ?_)
   refine p1 29 ?_
   refine AWL.storeEp (i := 1) (m := 2) rfl rfl rfl ag_141 rfl (E rfl rfl) (E rfl rfl) rfl rfl (by decide) (by show (i - 1) * 2 + 2 ≤ (List.take (i * 2) ((layL f ds.files i).flatMap fileCells) ++ fileCells (ds.files.getD (i - 1) default) ++ List.drop (i * 2 + 2) ((layL f ds.files i).flatMap fileCells)).length; rw [fset_all (by rw [layL_len hi]; omega), len_files, List.length_set, layL_len hi]; omega) (nl ?_)
   refine AWP.done (by kernel_rfl) ?_
   refine AW.eqS (S' := DSl b ds f (i - 1) A16 c16) (by
    have e := lay_swap (f := f) (l := ds.files) (i := i) hi (by omega)
    unfold DSl
    rw [← e]
    rfl) ?_
   refine AW.region ?_
   refine ym ?_
   refine Y1 (Yv.subN_i64 rfl eV eV (fun hg => by omega)) ?_
   refine ya ?_
   refine ⟨i - 1, ⟨by omega, fun y hy => ?_⟩, by omega, su (Sub.cons rfl (by rw [Int.natCast_sub (by omega)]; rfl) Sub.nil), rfl⟩
   rw [List.drop_eq_getElem_cons (by omega), show i - 1 + 1 = i by omega] at hy
   rcases List.mem_cons.1 hy with rfl | hy
   ·rw [← getD_eq' (by omega)]; exact h0t.2
   ·exact hall y hy
  try replace h0f := odf h0f
  simp only [Bool.or_eq_true, Bool.and_eq_true, Bool.or_eq_false_iff, Bool.and_eq_false_iff, Bool.not_eq_true', Bool.not_eq_false', decide_eq_true_eq, decide_eq_false_iff_not, Decidable.not_not] at h0f
  have hbx : i = 0 ∨ bl f.name (ds.files.getD (i - 1) default).name = false := by
   rcases h0f with h | h
   ·exact .inl (by omega)
   ·exact .inr h
  refine AW.perm (dsl_perm hi) ?_
  refine AW.exit ?_
  refine retN .nil ?_
  exact ⟨rfl, layL f ds.files i, A16, c16, lay_done hi hall hbx, rfl⟩

theorem lay35 (b : Nat) (ds : DS) (n : Nat) (hw : PB n (pl ds)) (hn : n ≤ 1099511627776) (f : FileR) (hfb : f.bytes.length ≤ 1099511627776) :
    ACalls Tryz.prog 43 [wp b, sv f.name, .v (.slice f.A f.bytes.length f.c)] (DSt b ds ++ [fileRow f]) (fun t S => t = .tup [] ∧ ∃ fs A c, Laid (nb f) (ds.files.map nb) (fs.map nb) ∧ S = DSt b { ds with files := fs, lA := A, lc := c }) := lay35F b ds n (nfl_of hw) hn f hfb
end Go.Proofs.YtpgbpdnmjeoeoaaGreat.V

namespace Go.Proofs.YtpgbpdnmjeoeoaaGreat.V
open Go Go.RowKit
theorem set_rows {l : List FileR} {q : Nat} (h : q < l.length) (f : FileR) : ∃ S', List.Sublist S' (l.map fileRow ++ [fileRow f]) ∧ ((l.set q f).map fileRow).Perm S' := by
 have e0 : l = l.take q ++ l[q] :: l.drop (q + 1) := by rw [← List.drop_eq_getElem_cons h, List.take_append_drop]
 refine ⟨(l.take q).map fileRow ++ ((l.drop (q + 1)).map fileRow ++ [fileRow f]), ?_, ?_⟩
 ·conv => rhs; rw [e0]
  rw [List.map_append, List.map_cons, List.append_assoc]
  exact (List.Sublist.refl _).append ((List.Sublist.refl _).cons _)
 rw [List.set_eq_take_append_cons_drop, if_pos h, List.map_append, List.map_cons]
 exact List.Perm.append_left _ (List.perm_append_singleton _ _).symm
section
variable {cx : Cx} {Q : Exit → Env → St → Prop} {env : Env} {S : St} {ops : Array Oper} {l' : List Oper} {K : Env → St → Prop}
theorem AW.setRow {code : Code} {a b c d : Ent} {l : List FileR} {q : Nat} (f : FileR) (hq : q < l.length) (hS : S = (a :: b :: c :: d :: l.map fileRow) ++ [fileRow f]) (h : AW cx code Q env (a :: b :: c :: d :: (l.set q f).map fileRow)) : AW cx code Q env S := by
 subst hS
 obtain ⟨S', h1, h2⟩ := set_rows hq f
 exact AW.drop (S' := a :: b :: c :: d :: S') ((((h1.cons_cons d).cons_cons c).cons_cons b).cons_cons a) (AW.perm ((((h2.cons d).cons c).cons b).cons a) h)
end
theorem dst_opn {b j : Nat} {ds : DS} (hj : j < ds.opn.length) (d : Desc) :
    .box b 84 (dCells ds) :: .row ds.lA ds.files.length ds.lc 141 2 (ds.files.flatMap fileCells) :: .row ds.dA ds.opn.length ds.dc 110 3 ((ds.opn.flatMap descCells).take (j * 3) ++ descCells d ++ (ds.opn.flatMap descCells).drop (j * 3 + 3)) :: .row ds.tA ds.trace.length ds.tc 86 3 (ds.trace.flatMap evCells) :: ds.files.map fileRow = DSt b { ds with opn := ds.opn.set j d } := by
 rw [dset_all hj]
 unfold DSt dCells
 simp only [List.length_set]
theorem dst_event {b : Nat} {ds : DS} (e : Evt) (A : Option Addr) (c : Nat) : DSt b { ds with trace := ds.trace ++ [e], tA := A, tc := c } =
    .box b 84 [.v (.slice ds.lA ds.files.length ds.lc), sv ds.stdin, .v (.slice ds.dA ds.opn.length ds.dc), .v (.slice A (ds.trace.length + 1) c)] :: .row ds.lA ds.files.length ds.lc 141 2 (ds.files.flatMap fileCells) :: .row ds.dA ds.opn.length ds.dc 110 3 (ds.opn.flatMap descCells) ::
     .row A (ds.trace.length + 1) c 86 3 (ds.trace.flatMap evCells ++ evCells e) :: ds.files.map fileRow := by
 simp only [DSt, dCells, List.length_append, List.length_cons, List.length_nil, List.flatMap_append, List.flatMap_cons, List.flatMap_nil, List.append_nil, Nat.zero_add]
theorem dst_bytes {b q : Nat} {ds : DS} (hq : q < ds.files.length) (A : Option Addr) (s : List UInt8) (c : Nat) :
    DSt b { ds with files := ds.files.set q ⟨(ds.files.getD q default).name, s, A, c⟩ } = .box b 84 (dCells ds) :: .row ds.lA ds.files.length ds.lc 141 2 ((ds.files.flatMap fileCells).set (q * 2 + 1) (.v (.slice A s.length c))) :: .row ds.dA ds.opn.length ds.dc 110 3 (ds.opn.flatMap descCells) :: .row ds.tA ds.trace.length ds.tc 86 3 (ds.trace.flatMap evCells) :: (ds.files.set q ⟨(ds.files.getD q default).name, s, A, c⟩).map fileRow := by
 rw [fset_bytes hq]
 unfold DSt dCells
 simp only [List.length_set]
theorem bad_flag {f : Int} {x r : Bool} (h : (!decide (f = 0) && !decide (f = 577) || x) = r) : ((f ≠ 0 ∧ f ≠ 577) ∨ x = true) ↔ r = true := by
 subst h
 simp
theorem PB.opn_set {n j : Nat} {p : PW} {d : Desc} (h : PB n p) (hd : d.place ≤ n) : PB n { p with opn := p.opn.set j d } :=
 ⟨by show (p.opn.set j d).length = 19; rw [List.length_set]; exact h.opn, h.tr, h.txt, h.fl, fun x hx => by
  rcases List.mem_or_eq_of_mem_set hx with hx | rfl
  ·exact h.pl x hx
  ·exact hd, h.sin, h.nf⟩
end Go.Proofs.YtpgbpdnmjeoeoaaGreat.V

namespace Go.Proofs.YtpgbpdnmjeoeoaaGreat.V
open Go Go.RowKit

set_option maxHeartbeats 2000000 in
theorem SysOpen37 (b : Nat) (ds : DS) (n : Nat) (hw : PB n (pl ds)) (hn : n ≤ 1099511627776) (name : List UInt8) (flags : Int) (hnl : name.length ≤ 1099511627776) :
    ACalls Tryz.prog 139 [wp b, sv name, .v (.int .i64 flags)] (DSt b ds) (fun t S => t = .v (.int .i64 (openV name flags (pl ds))) ∧ ∃ ds', DOpen name flags (pl ds) (pl ds') ∧ S = DSt b ds') := by
 have hw1 := hw
 obtain ⟨ho, htr, htx, hfl, hpl, hsi, hnf⟩ := hw
 have ho : ds.opn.length = 19 := ho
 have htr : ds.trace.length ≤ n := htr
 have hsi : ds.stdin.length ≤ n := hsi
 have hnf : ds.files.length ≤ n := by have h := hnf; unfold pl at h; rwa [List.length_map] at h
 have htxt : ∀ e ∈ ds.trace, e.text.length ≤ n := htx
 refine ACalls.intro Tryz.func139 rfl Tryz.ntmps139 nB rfl fun X w0 => ?_
 refine ra ?_
 refine rs (ym ?_)
 refine AWL.callP rfl rfl (B rfl) rfl ce_66 (E rfl rfl) (evsC (E rfl rfl) evs0) (zero55 name hnl) (fun t S h => h) ?_
 refine ya ?_
 refine rs (ym ?_)
 refine ym ?_
 refine cA ce_42 rfl rfl rfl (find34 b ds n hw1 hn name) ?_
 rintro t14 S14 ⟨rfl, rfl⟩
 refine ya ?_
 refine ra ?_
 refine AW.seq ?_
 refine AW.block ?_
 refine AW.loop (fun (j : Nat) => [(0, true, wp b), (1, true, sv name), (2, true, .v (.int .i64 flags)), (7, true, .v (.bool (badN name))), (8, true, .v (.int .i64 (findP name (pl ds).files))), (9, true, .v (.int .i64 (j : Int)))]) (fun (j : Nat) => (DSt b ds)) (fun (j : Nat) => j ≤ 19 ∧ ∀ i, i < j → (ds.opn.getD i default).kind ≠ 0) (fun (j : Nat) => 19 - j) 0 ?_ ?_ ?_ ?_
 ·exact ⟨Nat.zero_le _, fun i hi => absurd hi (Nat.not_lt_zero i)⟩
 ·exact (su (su (su (su (su (su sn))))))
 ·rfl
 ·
  intro j hinv
  obtain ⟨hj, hbef⟩ := hinv
  refine AW.seq ?_
  refine rs (ym ?_)
  refine Y1 (Yv.lss rfl eV eV) ?_
  refine ym ?_
  refine gT (Yv.move rfl eV) ?_
  refine gT (Yv.nilChk rfl (Eg rfl rfl id)) ?_
  refine gT (Yv.fieldBox rfl fo_84_2 (Eg rfl rfl id)) ?_
  refine gT (Yv.loadBox rfl ag_81 (i := 0) rfl (Eg rfl rfl id) rfl) ?_
  refine gT (Yv.move rfl eV) ?_
  refine gT (Yv.indexRow (j := j) rfl ss_81 (i := 2) rfl (Eg rfl rfl id) (Eg rfl rfl id) (fun hg => by first | exact ⟨by omega, by omega⟩ | (simp only [Bool.or_eq_true, Bool.and_eq_true, Bool.or_eq_false_iff, Bool.and_eq_false_iff, Bool.not_eq_true', Bool.not_eq_false', decide_eq_true_eq, decide_eq_false_iff_not, Decidable.not_not] at hg; exact ⟨by omega, by omega⟩))) ?_
  refine gT (Yv.fieldEp rfl fo_110_0 (Eg rfl rfl id)) ?_
  refine gT (Yv.loadEp rfl ag_3 (i := 2) rfl (Eg rfl rfl id) (fun hg => dkd_at (by first | omega | (simp only [Bool.or_eq_true, Bool.and_eq_true, Bool.or_eq_false_iff, Bool.and_eq_false_iff, Bool.not_eq_true', Bool.not_eq_false', decide_eq_true_eq, decide_eq_false_iff_not, Decidable.not_not] at hg; omega)))) ?_
  refine gT (Yv.neq rfl (Eg rfl rfl id) eV) ?_
  refine Y1 (Yv.pickAnd rfl eV (Eg rfl rfl id)) (nl ?_)
  refine AW.cond rfl (fun h0t => ?_) (fun h0f => ?_)
  ·
   try replace h0t := odt h0t
   simp only [Bool.or_eq_true, Bool.and_eq_true, Bool.or_eq_false_iff, Bool.and_eq_false_iff, Bool.not_eq_true', Bool.not_eq_false', decide_eq_true_eq, decide_eq_false_iff_not, Decidable.not_not] at h0t
   refine AW.skip ?_
   refine AW.block ?_
   refine AW.region ?_
   refine ym ?_
   refine Y1 (Yv.addN_i64 rfl eV eV (fun hg => by omega)) ?_
   refine ya ?_
   refine ⟨j + 1, ⟨by omega, fun i hi => ?_⟩, by omega, (su (su (su (su (su (Sub.cons rfl (by simp) Sub.nil)))))), rfl⟩
   rcases Nat.lt_or_ge i j with h | h
   ·exact hbef i h
   ·obtain rfl : i = j := by omega
    exact h0t.2
  try replace h0f := odf h0f
  simp only [Bool.or_eq_true, Bool.and_eq_true, Bool.or_eq_false_iff, Bool.and_eq_false_iff, Bool.not_eq_true', Bool.not_eq_false', decide_eq_true_eq, decide_eq_false_iff_not, Decidable.not_not] at h0f
  refine AW.exit ?_
  refine AW.seq ?_
  refine AW.block ?_
  refine rs (ym ?_)
  refine Y1 (Yv.lenL rfl st_9 eV) ?_
  refine Y1 (Yv.gtr rfl eV eV) ?_
  refine ya ?_
  refine AW.cond rfl (fun h1t => ?_) (fun h1f => ?_)
  ·
   try replace h1t := odt h1t
   refine ra ?_
   refine AW.ret (retI (.tmp rfl .nil) ?_)
   have e : openV name flags (pl ds) = -36 := by
    unfold openV
    rw [if_pos (by omega)]
   exact ⟨by rw [e]; rfl, ds, ⟨.inl ⟨by rw [e]; decide, rfl⟩⟩, rfl⟩
  try replace h1f := odf h1f
  refine rs (ym ?_)
  refine Y1 (Yv.neq rfl eV eV) ?_
  refine ym ?_
  refine gT (Yv.move rfl eV) ?_
  refine gT (Yv.neq rfl (Eg rfl rfl id) eV) ?_
  refine Y1 (Yv.pickAnd rfl eV (Eg rfl rfl id)) ?_
  refine ym ?_
  refine gF (Yv.move rfl eV) ?_
  refine Y1 (Yv.pickOr (t := .const (.bool true)) rfl eV (Eg rfl rfl id)) ?_
  refine ya ?_
  refine AW.cond rfl (fun h2t => ?_) (fun h2f => ?_)
  ·
   try replace h2t := odt h2t
   have hbd : (flags ≠ 0 ∧ flags ≠ 577) ∨ badN name = true := (bad_flag h2t).2 rfl
   refine ra ?_
   refine AW.ret (retI (.tmp rfl .nil) ?_)
   have e : openV name flags (pl ds) = -22 := by
    unfold openV
    rw [if_neg (by omega), if_pos hbd]
   exact ⟨by rw [e]; rfl, ds, ⟨.inl ⟨by rw [e]; decide, rfl⟩⟩, rfl⟩
  try replace h2f := odf h2f
  have hbd : ¬ ((flags ≠ 0 ∧ flags ≠ 577) ∨ badN name = true) := fun q => absurd ((bad_flag h2f).1 q) (by decide)
  refine rs (ym ?_)
  refine Y1 (Yv.eqlL rfl eV eV) ?_
  refine ym ?_
  refine gF (Yv.move rfl eV) ?_
  refine gF (Yv.eql rfl (Eg rfl rfl id) eV) ?_
  refine gF (Yv.move rfl (Eg rfl rfl id)) ?_
  refine gT (Yv.move rfl eV) ?_
  refine gT (Yv.lss rfl (Eg rfl rfl id) eV) ?_
  refine gF (Yv.pickAnd rfl (Eg rfl rfl id) (Eg rfl rfl id)) ?_
  refine Y1 (Yv.pickOr (t := .const (.bool true)) rfl eV (Eg rfl rfl id)) ?_
  refine ya ?_
  refine AW.cond rfl (fun h3t => ?_) (fun h3f => ?_)
  ·
   try replace h3t := odt h3t
   simp only [Bool.or_eq_true, Bool.and_eq_true, Bool.or_eq_false_iff, Bool.and_eq_false_iff, Bool.not_eq_true', Bool.not_eq_false', decide_eq_true_eq, decide_eq_false_iff_not, Decidable.not_not] at h3t
   refine ra ?_
   refine AW.ret (retI (.tmp rfl .nil) ?_)
   have e : openV name flags (pl ds) = -2 := by
    unfold openV
    rw [if_neg (by omega), if_neg hbd]
    by_cases hne : name = []
    ·rw [if_pos hne]
    ·rcases h3t with h | ⟨h, h2⟩
     ·exact absurd h hne
     ·have h4 : getP name (pl ds).files = none := by
       rcases findP_get (name := name) (l := (pl ds).files) with ⟨_, h3⟩ | ⟨q1, h3, _⟩
       ·exact h3
       ·rw [h3] at h2; omega
      rw [if_neg hne, if_pos ⟨h, h4⟩]
   exact ⟨by rw [e]; rfl, ds, ⟨.inl ⟨by rw [e]; decide, rfl⟩⟩, rfl⟩
  try replace h3f := odf h3f
  simp only [Bool.or_eq_true, Bool.and_eq_true, Bool.or_eq_false_iff, Bool.and_eq_false_iff, Bool.not_eq_true', Bool.not_eq_false', decide_eq_true_eq, decide_eq_false_iff_not, Decidable.not_not] at h3f
  have hne : ¬ name = [] := h3f.1
  have hge : ¬ (flags = 0 ∧ findP name (pl ds).files < 0) := fun q => by
   rcases h3f.2 with h | h
   ·exact h q.1
   ·omega
  have hnone : ¬ (flags = 0 ∧ getP name (pl ds).files = none) := fun q => by
   rcases findP_get (name := name) (l := (pl ds).files) with ⟨h, _⟩ | ⟨q1, _, _, _, h, _⟩
   ·exact hge ⟨q.1, by rw [h]; decide⟩
   ·rw [q.2] at h; cases h
  have hR : openV name flags (pl ds) = if freeIx ds.opn < 19 then (freeIx ds.opn : Int) else -24 := by
   unfold openV
   rw [if_neg (by omega), if_neg hbd, if_neg hne, if_neg hnone]
   rfl
  refine rs (ym ?_)
  refine Y1 (Yv.eql rfl eV eV) ?_
  refine ya ?_
  refine AW.cond rfl (fun h4t => ?_) (fun h4f => ?_)
  ·
   try replace h4t := odt h4t
   refine ra ?_
   refine AW.ret (retI (.tmp rfl .nil) ?_)
   have hnf : ¬ freeIx ds.opn < 19 := by
    rw [← ho]
    exact freeIx_none (fun i hi => hbef i (by omega))
   rw [if_neg hnf] at hR
   exact ⟨by rw [hR]; rfl, ds, ⟨.inl ⟨by rw [hR]; decide, rfl⟩⟩, rfl⟩
  try replace h4f := odf h4f
  have hk0 : (ds.opn.getD j default).kind = 0 := by
   rcases h0f with h | h
   ·omega
   ·exact h
  have hix : freeIx ds.opn = j := freeIx_is (by omega) hk0 hbef
  rw [hix, if_pos (by omega)] at hR
  have hnn : ¬ openV name flags (pl ds) < 0 := by rw [hR]; omega
  refine AW.skip ?_
  refine AW.seq ?_
  refine rs (ym ?_)
  refine Y1 (Yv.eql rfl eV eV) (nl ?_)
  refine AW.cond rfl (fun h5t => ?_) (fun h5f => ?_)
  ·
   try replace h5t := odt h5t
   refine rs (ym ?_)
   refine Y1 (Yv.nilChk rfl eV) ?_
   refine yf fo_84_2 ?_
   refine yl ag_81 0 ?_
   refine ym ?_
   refine ym ?_
   refine Y1 (Yv.buildS rfl sh_110 (evpC eV (evpC eV evp0)) (fun _ => rfl)) ?_
   refine Y1 (Yv.indexRow (j := j) rfl ss_81 (i := 2) rfl (E rfl rfl) (E rfl rfl) (fun hg => by first | exact ⟨by omega, by omega⟩ | (simp only [Bool.or_eq_true, Bool.and_eq_true, Bool.or_eq_false_iff, Bool.and_eq_false_iff, Bool.not_eq_true', Bool.not_eq_false', decide_eq_true_eq, decide_eq_false_iff_not, Decidable.not_not] at hg; exact ⟨by omega, by omega⟩))) ?_
   refine AWL.storeEp (i := 2) (m := 3) rfl rfl rfl ag_110 rfl (E rfl rfl) (E rfl rfl) rfl rfl (by decide) (by rw [len_desc]; omega) (nl ?_)
   refine AW.eqS (S' := DSt b { ds with opn := ds.opn.set j ⟨4, name, 0⟩ }) (dst_opn (by omega) ⟨4, name, 0⟩) ?_
   refine rs (ym ?_)
   refine ya ?_
   refine AW.ret (retI (.tmp rfl .nil) ?_)
   refine ⟨by rw [hR]; rfl, { ds with opn := ds.opn.set j ⟨4, name, 0⟩ }, ⟨.inr (.inl ⟨hnn, by omega, ?_⟩)⟩, rfl⟩
   unfold openP
   rw [if_neg hnn, if_neg (by omega), show freeIx (pl ds).opn = j from hix]
   rfl
  try replace h5f := odf h5f
  have h577 : flags = 577 := by
   by_cases h : flags = 577
   ·exact h
   ·exact absurd (.inl ⟨h5f, h⟩) hbd
  refine AW.skip ?_
  refine rs (ym ?_)
  refine Y1 (Yv.nilChk rfl eV) ?_
  refine yf fo_84_2 ?_
  refine yl ag_81 0 ?_
  refine ym ?_
  refine ym ?_
  refine Y1 (Yv.buildS rfl sh_110 (evpC eV (evpC eV evp0)) (fun _ => rfl)) ?_
  refine Y1 (Yv.indexRow (j := j) rfl ss_81 (i := 2) rfl (E rfl rfl) (E rfl rfl) (fun hg => by first | exact ⟨by omega, by omega⟩ | (simp only [Bool.or_eq_true, Bool.and_eq_true, Bool.or_eq_false_iff, Bool.and_eq_false_iff, Bool.not_eq_true', Bool.not_eq_false', decide_eq_true_eq, decide_eq_false_iff_not, Decidable.not_not] at hg; exact ⟨by omega, by omega⟩))) ?_
  refine AWL.storeEp (i := 2) (m := 3) rfl rfl rfl ag_110 rfl (E rfl rfl) (E rfl rfl) rfl rfl (by decide) (by rw [len_desc]; omega) (nl ?_)
  refine AW.eqS (S' := DSt b { ds with opn := ds.opn.set j ⟨5, name, 0⟩ }) (dst_opn (by omega) ⟨5, name, 0⟩) ?_
  refine AW.seq ?_
  refine rs (ym ?_)
  refine Y1 (Yv.geq rfl eV eV) (nl ?_)
  refine AW.cond rfl (fun h6t => ?_) (fun h6f => ?_)
  ·
   try replace h6t := odt h6t
   obtain ⟨q, hfq, hq, hqn, hqg, hqp⟩ := (findP_get (name := name) (l := (pl ds).files)).resolve_left (fun h => by rw [h.1] at h6t; exact absurd h6t (by decide))
   rw [hfq]
   have hq : q < ds.files.length := by have h := hq; unfold pl at h; rwa [List.length_map] at h
   have hqn : (ds.files.getD q default).name = name := by have h := hqn; unfold pl at h; rwa [nb_at hq] at h
   refine AW.region ?_
   refine ym ?_
   refine Y1 (Yv.nilChk rfl eV) ?_
   refine yf fo_84_0 ?_
   refine yl ag_80 0 ?_
   refine ym ?_
   refine Y1 (Yv.indexRow rfl ss_80 (i := 1) rfl eV eV (fun hg => ⟨rfl, by omega⟩)) ?_
   refine Y1 (Yv.fieldEp rfl fo_141_1 eV) ?_
   refine AWL.storeEp1 (i := 1) rfl rfl rfl ag_54 rfl (E rfl rfl) (E rfl rfl) rfl rfl (by rw [len_files]; show q * 2 + 1 < ds.files.length * 2; omega) (nl ?_)
   refine AW.rowNil 5 1 ?_
   refine AW.setRow (f := ⟨name, [], none, 0⟩) (q := q) (l := ds.files) hq rfl ?_
   refine AW.eqS (S' := DSt b { { ds with opn := ds.opn.set j ⟨5, name, 0⟩ } with files := ds.files.set q ⟨name, [], none, 0⟩ }) (by
    have e := dst_bytes (b := b) (ds := { ds with opn := ds.opn.set j ⟨5, name, 0⟩ }) hq none [] 0
    rw [show (ds.files.getD q default).name = name from hqn] at e
    exact e.symm) ?_
   refine rs (ym ?_)
   refine ym ?_
   refine Y1 (Yv.nilChk rfl eV) ?_
   refine yf fo_84_3 ?_
   refine yl ag_82 0 ?_
   refine ym ?_
   refine Y1 (Yv.buildS rfl sh_86 (evpC eV (evpC eV evp0)) (fun _ => rfl)) ?_
   refine AWL.buildSliceE rfl rfl (B rfl) rfl el_82 (B rfl) rfl (evsC (E rfl rfl) evs0) nB rfl rfl ?_
   refine AWL.appendRow (i := 3) rfl rfl (B rfl) rfl el_82 (B rfl) rfl (E rfl rfl) (SrcT.sl so_82 (B rfl) (E rfl rfl) (m := 1) rfl) (by show ds.trace.length + 1 ≤ maxLen; unfold maxLen; omega) (by show (ds.trace.length + 1) * _ ≤ _; omega) (fun A97 c97 => ?_)
   refine Y1 (Yv.nilChk rfl eV) ?_
   refine yf fo_84_3 ?_
   refine AWL.storeBox (i := 0) rfl rfl rfl ag_82 rfl (E rfl rfl) (E rfl rfl) rfl rfl nB (nl ?_)
   refine rs (ym ?_)
   refine ya ?_
   refine AW.ret (retI (.tmp rfl .nil) ?_)
   refine ⟨by rw [hR]; rfl, { { ds with opn := ds.opn.set j ⟨5, name, 0⟩ } with files := ds.files.set q ⟨name, [], none, 0⟩, trace := ds.trace ++ [⟨3, name, []⟩], tA := A97, tc := c97 }, ⟨.inr (.inr ⟨hnn, h577, ?_, rfl, rfl, .inl ⟨⟨_, hqg⟩, ?_⟩⟩)⟩, ?_⟩
   ·rw [show freeIx (pl ds).opn = j from hix]; rfl
   ·rw [hqp]
    show (ds.files.set q ⟨name, [], none, 0⟩).map nb = _
    rw [List.map_set]
    rfl
   ·exact (dst_event (b := b) (ds := { { ds with opn := ds.opn.set j ⟨5, name, 0⟩ } with files := ds.files.set q ⟨name, [], none, 0⟩ }) ⟨3, name, []⟩ A97 c97).symm
  try replace h6f := odf h6f
  have hgn := (findP_get (name := name) (l := (pl ds).files)).resolve_right (fun ⟨q, h, _⟩ => by rw [h] at h6f; omega)
  refine AW.rowNil 5 1 ?_
  refine AW.region ?_
  refine ym ?_
  refine ym ?_
  refine cA ce_43 rfl rfl rfl (lay35 b { ds with opn := ds.opn.set j ⟨5, name, 0⟩ } n (hw1.opn_set (Nat.zero_le n)) hn ⟨name, [], none, 0⟩ (Nat.zero_le _)) ?_
  rintro t88 S88 ⟨rfl, fs88, A88, c88, hl88, rfl⟩
  refine nl ?_
  refine rs (ym ?_)
  refine ym ?_
  refine Y1 (Yv.nilChk rfl eV) ?_
  refine yf fo_84_3 ?_
  refine yl ag_82 0 ?_
  refine ym ?_
  refine Y1 (Yv.buildS rfl sh_86 (evpC eV (evpC eV evp0)) (fun _ => rfl)) ?_
  refine AWL.buildSliceE rfl rfl (B rfl) rfl el_82 (B rfl) rfl (evsC (E rfl rfl) evs0) nB rfl rfl ?_
  refine AWL.appendRow (i := 3) rfl rfl (B rfl) rfl el_82 (B rfl) rfl (E rfl rfl) (SrcT.sl so_82 (B rfl) (E rfl rfl) (m := 1) rfl) (by show ds.trace.length + 1 ≤ maxLen; unfold maxLen; omega) (by show (ds.trace.length + 1) * _ ≤ _; omega) (fun A97 c97 => ?_)
  refine Y1 (Yv.nilChk rfl eV) ?_
  refine yf fo_84_3 ?_
  refine AWL.storeBox (i := 0) rfl rfl rfl ag_82 rfl (E rfl rfl) (E rfl rfl) rfl rfl nB (nl ?_)
  refine rs (ym ?_)
  refine ya ?_
  refine AW.ret (retI (.tmp rfl .nil) ?_)
  refine ⟨by rw [hR]; rfl, { { ds with opn := ds.opn.set j ⟨5, name, 0⟩ } with files := fs88, lA := A88, lc := c88, trace := ds.trace ++ [⟨3, name, []⟩], tA := A97, tc := c97 }, ⟨.inr (.inr ⟨hnn, h577, ?_, rfl, rfl, .inr ⟨hgn.2, ?_⟩⟩)⟩, ?_⟩
  ·rw [show freeIx (pl ds).opn = j from hix]; rfl
  ·exact hl88
  ·exact (dst_event (b := b) (ds := { { ds with opn := ds.opn.set j ⟨5, name, 0⟩ } with files := fs88, lA := A88, lc := c88 }) ⟨3, name, []⟩ A97 c97).symm

end Go.Proofs.YtpgbpdnmjeoeoaaGreat.V

namespace Go.Proofs.YtpgbpdnmjeoeoaaGreat.V
open Go Go.RowKit
theorem dfile_row {b q : Nat} {ds : DS} (hq : q < ds.files.length) : (DSt b ds)[q + 4]? = some (fileRow (ds.files.getD q default)) := by
 unfold DSt
 simp only [List.getElem?_cons_succ]
 rw [List.getElem?_map, List.getElem?_eq_getElem hq, getD_eq' hq]
 rfl
def atP (d : Desc) (p : Nat) : Desc := { d with place := p }
theorem set_getD {α : Type} [Inhabited α] {l : List α} {j : Nat} (h : j < l.length) : l.set j (l.getD j default) = l := by
 rw [getD_eq' h, List.set_getElem_self]
theorem atP_self (d : Desc) : atP d d.place = d := rfl
theorem dpl_set {l : List Desc} {j : Nat} {d : Desc} (h : j < l.length) : ((l.set j d).flatMap descCells)[j * 3 + 2]? = some (.v (.int .i64 (d.place : Int))) := by
 rw [dpl_at (by rw [List.length_set]; exact h), getD_eq' (by rw [List.length_set]; exact h), List.getElem_set_self]
theorem dnm_set {l : List Desc} {j : Nat} {d : Desc} (h : j < l.length) : ((l.set j d).flatMap descCells)[j * 3 + 1]? = some (sv d.name) := by
 rw [dnm_at (by rw [List.length_set]; exact h), getD_eq' (by rw [List.length_set]; exact h), List.getElem_set_self]
def DSp (b : Nat) (ds : DS) (j p : Nat) : St := DSt b { ds with opn := ds.opn.set j (atP (ds.opn.getD j default) p) }
theorem dsp_self {b j : Nat} {ds : DS} (h : j < ds.opn.length) : DSp b ds j (ds.opn.getD j default).place = DSt b ds := by
 unfold DSp
 rw [atP_self, set_getD h]
theorem dsp_step {b j p : Nat} {ds : DS} (h : j < ds.opn.length) : (DSp b ds j p).set 2 (.row ds.dA (ds.opn.set j (atP (ds.opn.getD j default) p)).length ds.dc 110 3 (((ds.opn.set j (atP (ds.opn.getD j default) p)).flatMap descCells).set (j * 3 + 2) (.v (.int .i64 ((p : Int) + 1))))) = DSp b ds j (p + 1) := by
 have e := dset_place (l := ds.opn.set j (atP (ds.opn.getD j default) p)) (j := j) (by rw [List.length_set]; exact h) (p + 1)
 simp only [getD_set h, List.set_set] at e
 rw [show ((p : Int) + 1) = ((p + 1 : Nat) : Int) by omega, e]
 unfold DSp DSt dCells
 simp only [List.length_set]
 rfl
theorem dfile_rowp {b q j p : Nat} {ds : DS} (hq : q < ds.files.length) : (DSp b ds j p)[q + 4]? = some (fileRow (ds.files.getD q default)) := by
 unfold DSp
 exact dfile_row (ds := { ds with opn := ds.opn.set j (atP (ds.opn.getD j default) p) }) hq
theorem byte_at {l : List UInt8} {i : Nat} (h : i < l.length) : (l.map u8)[i * 1]? = some (u8 (l.getD i 0)) := by
 rw [Nat.mul_one, List.getElem?_map, List.getElem?_eq_getElem h, List.getD_eq_getElem?_getD, List.getElem?_eq_getElem h]
 rfl
theorem take_step {l : List UInt8} {p k : Nat} (h : p + k < l.length) : ((l.drop p).take k).map u8 ++ [u8 (l.getD (p + k) 0)] = ((l.drop p).take (k + 1)).map u8 := by
 have hk : k < (l.drop p).length := by rw [List.length_drop]; omega
 rw [List.take_add_one, List.getElem?_drop, List.map_append]
 rw [List.getElem?_eq_getElem h, List.getD_eq_getElem?_getD, List.getElem?_eq_getElem h]
 rfl
theorem read_file {ds : DS} {j q N : Nat} {fd : Int} (hfd : fd = (j : Int)) (hk : kindP fd (pl ds) = 4) (hq : q < ds.files.length) (hg : getP (ds.opn.getD j default).name (pl ds).files = some (ds.files.getD q default).bytes) :
    readV fd (N : Int) (pl ds) = (((ds.files.getD q default).bytes.drop (ds.opn.getD j default).place).take N, ((((ds.files.getD q default).bytes.drop (ds.opn.getD j default).place).take N).length : Int)) ∧
    readP fd (N : Int) (pl ds) = { pl ds with opn := ds.opn.set j (atP (ds.opn.getD j default) ((ds.opn.getD j default).place + (((ds.files.getD q default).bytes.drop (ds.opn.getD j default).place).take N).length)) } := by
 subst hfd
 have e : ((pl ds).opn.getD (j : Int).toNat default) = ds.opn.getD j default := rfl
 unfold readV readP
 rw [hk, if_neg (by decide), if_pos rfl, if_neg (by decide), if_pos rfl, e, hg]
 exact ⟨rfl, rfl⟩
end Go.Proofs.YtpgbpdnmjeoeoaaGreat.V

namespace Go.Proofs.YtpgbpdnmjeoeoaaGreat.V
open Go Go.RowKit

set_option maxHeartbeats 2000000 in
theorem SysRead39 (b : Nat) (ds : DS) (n : Nat) (hw : PB n (pl ds)) (hn : n ≤ 1099511627776) (hnm : Named (pl ds)) (fd : Int) (N : Nat) :
    ACalls Tryz.prog 125 [wp b, .v (.int .i64 fd), .v (.int .u64 (N : Int))] (DSt b ds) (fun t S => t = .tup [sv (readV fd (N : Int) (pl ds)).1, .v (.int .i64 (readV fd (N : Int) (pl ds)).2)] ∧ S = DSt b { ds with stdin := (readP fd (N : Int) (pl ds)).stdin, opn := (readP fd (N : Int) (pl ds)).opn }) := by
 have hw1 := hw
 obtain ⟨ho, htr, htx, hfl, hpl, hsi, hnf⟩ := hw
 have ho : ds.opn.length = 19 := ho
 have htr : ds.trace.length ≤ n := htr
 have hsi : ds.stdin.length ≤ n := hsi
 have hnf : ds.files.length ≤ n := by have h := hnf; unfold pl at h; rwa [List.length_map] at h
 have htxt : ∀ e ∈ ds.trace, e.text.length ≤ n := htx
 have hplx : ∀ d ∈ ds.opn, d.place ≤ n := hpl
 refine ACalls.intro Tryz.func125 rfl Tryz.ntmps125 nB rfl fun X w0 => ?_
 refine rs (Y1 (Yv.assign rfl eV) ?_)
 refine ya ?_
 refine rs (ym ?_)
 refine ym ?_
 refine cA ce_137 rfl rfl rfl (kind56 b ds n hw1 hn fd) ?_
 rintro t15 S15 ⟨rfl, rfl⟩
 refine ya ?_
 refine AW.seq ?_
 refine rs (ym ?_)
 refine Y1 (Yv.eql rfl eV eV) (nl ?_)
 refine AW.cond rfl (fun h0t => ?_) (fun h0f => ?_)
 ·
  try replace h0t := odt h0t
  have hk1 : kindP fd (pl ds) = 1 := h0t
  refine rs (ym ?_)
  refine Y1 (Yv.nilChk rfl eV) ?_
  refine yf fo_84_1 ?_
  refine yl ag_9 0 ?_
  refine Y1 (Yv.lenL rfl st_9 eV) ?_
  refine ya ?_
  refine AW.seq ?_
  refine rs (ym ?_)
  refine ym ?_
  refine Y1 (Yv.convN_u64 rfl Tryz.underlying3 kd_22 eV (fun hg => by omega)) ?_
  refine Y1 (Yv.lss rfl eV eV) (nl ?_)
  refine AW.cond rfl (fun h1t => ?_) (fun h1f => ?_)
  ·
   try replace h1t := odt h1t
   refine AW.region ?_
   refine ym ?_
   refine Y1 (Yv.convN_i64 rfl Tryz.underlying22 kd_3 eV (fun hg => by omega)) ?_
   refine ya ?_
   refine rs (ym ?_)
   refine Y1 (Yv.nilChk rfl eV) ?_
   refine yf fo_84_1 ?_
   refine yl ag_9 0 ?_
   refine ym ?_
   refine Y1 (Yv.sliceL rfl st_9 eV Bound.none_ (Bound.some_ eV (fun hg => rfl)) (fun hg => ⟨by omega, by omega⟩)) ?_
   refine ya ?_
   refine rs (ym ?_)
   refine ym ?_
   refine Y1 (Yv.nilChk rfl eV) ?_
   refine yf fo_84_1 ?_
   refine yl ag_9 0 ?_
   refine ym ?_
   refine Y1 (Yv.sliceL rfl st_9 eV (Bound.some_ eV (fun hg => rfl)) Bound.none_ (fun hg => ⟨by omega, by omega⟩)) ?_
   refine Y1 (Yv.nilChk rfl eV) ?_
   refine yf fo_84_1 ?_
   refine AWL.storeBox (i := 0) rfl rfl rfl ag_9 rfl (E rfl rfl) (E rfl rfl) rfl rfl nB (nl ?_)
   refine rs (ym ?_)
   refine ym ?_
   refine Y1 (Yv.assign rfl eV) ?_
   refine ya ?_
   refine AW.ret (retI (.tmp rfl (.tmp rfl .nil)) ?_)
   have e1 : readV fd (N : Int) (pl ds) = (ds.stdin.take N, (N : Int)) := by
    unfold readV
    rw [if_pos hk1]
    show (ds.stdin.take N, ((ds.stdin.take N).length : Int)) = _
    rw [List.length_take, Nat.min_eq_left (by omega)]
   have e2 : readP fd (N : Int) (pl ds) = { pl ds with stdin := ds.stdin.drop N } := by
    unfold readP
    rw [if_pos hk1]
    rfl
   have e3 : (ds.stdin.drop N).take (ds.stdin.length - N) = ds.stdin.drop N := List.take_of_length_le (by rw [List.length_drop]; omega)
   rw [e1, e2]
   exact ⟨rfl, congrArg (fun z => DSt b { ds with stdin := z }) e3⟩
  try replace h1f := odf h1f
  refine AW.skip ?_
  refine rs (ym ?_)
  refine Y1 (Yv.nilChk rfl eV) ?_
  refine yf fo_84_1 ?_
  refine yl ag_9 0 ?_
  refine ym ?_
  refine Y1 (Yv.sliceL rfl st_9 eV Bound.none_ (Bound.some_ eV (fun hg => rfl)) (fun hg => ⟨by omega, by omega⟩)) ?_
  refine ya ?_
  refine rs (ym ?_)
  refine ym ?_
  refine Y1 (Yv.nilChk rfl eV) ?_
  refine yf fo_84_1 ?_
  refine yl ag_9 0 ?_
  refine ym ?_
  refine Y1 (Yv.sliceL rfl st_9 eV (Bound.some_ eV (fun hg => rfl)) Bound.none_ (fun hg => ⟨by omega, by omega⟩)) ?_
  refine Y1 (Yv.nilChk rfl eV) ?_
  refine yf fo_84_1 ?_
  refine AWL.storeBox (i := 0) rfl rfl rfl ag_9 rfl (E rfl rfl) (E rfl rfl) rfl rfl nB (nl ?_)
  refine rs (ym ?_)
  refine ym ?_
  refine Y1 (Yv.assign rfl eV) ?_
  refine ya ?_
  refine AW.ret (retI (.tmp rfl (.tmp rfl .nil)) ?_)
  have e1 : readV fd (N : Int) (pl ds) = (ds.stdin.take ds.stdin.length, (ds.stdin.length : Int)) := by
   unfold readV
   rw [if_pos hk1]
   show (ds.stdin.take N, ((ds.stdin.take N).length : Int)) = _
   rw [List.take_of_length_le (show ds.stdin.length ≤ N by omega), List.take_length]
  have e2 : readP fd (N : Int) (pl ds) = { pl ds with stdin := ds.stdin.drop N } := by
   unfold readP
   rw [if_pos hk1]
   rfl
  have e3 : (ds.stdin.drop ds.stdin.length).take (ds.stdin.length - ds.stdin.length) = ds.stdin.drop N := by rw [Nat.sub_self, List.take_zero, List.drop_of_length_le (by omega)]
  rw [e1, e2]
  exact ⟨rfl, congrArg (fun z => DSt b { ds with stdin := z }) e3⟩
 try replace h0f := odf h0f
 refine AW.skip ?_
 refine AW.seq ?_
 refine rs (ym ?_)
 refine Y1 (Yv.neq rfl eV eV) (nl ?_)
 refine AW.cond rfl (fun h2t => ?_) (fun h2f => ?_)
 ·
  try replace h2t := odt h2t
  have hk4 : ¬ kindP fd (pl ds) = 4 := by simpa using h2t
  refine rs (Y1 (Yv.assign rfl eV) ?_)
  refine ya ?_
  refine AW.ret (retI (.tmp rfl (.tmp rfl .nil)) ?_)
  have e1 : readV fd (N : Int) (pl ds) = ([], -9) := by unfold readV; rw [if_neg h0f, if_neg hk4]
  have e2 : readP fd (N : Int) (pl ds) = pl ds := by unfold readP; rw [if_neg h0f, if_neg hk4]
  rw [e1, e2]
  exact ⟨rfl, rfl⟩
 try replace h2f := odf h2f
 have hk4 : kindP fd (pl ds) = 4 := by simpa using h2f
 refine AW.skip ?_
 obtain ⟨hf0, hf1, hfl', hmem, hke⟩ := kind_in hnm (fd := fd) (by omega)
 obtain ⟨j, rfl⟩ : ∃ j : Nat, fd = (j : Int) := ⟨fd.toNat, by omega⟩
 have hsome := hnm.2 _ hmem (.inl (by rw [← hke]; exact hk4))
 have hsome : (getP (ds.opn.getD j default).name (pl ds).files).isSome = true := hsome
 obtain ⟨q, hfq, hq, hqn, hqg, hqp⟩ := (findP_get (name := (ds.opn.getD j default).name) (l := (pl ds).files)).resolve_left (fun h => by rw [h.2] at hsome; cases hsome)
 have hq : q < ds.files.length := by have h := hq; unfold pl at h; rwa [List.length_map] at h
 have hqg : getP (ds.opn.getD j default).name (pl ds).files = some (ds.files.getD q default).bytes := by
  rw [hqg]
  unfold pl
  rw [nb_at hq]
  rfl
 have hjl : j < ds.opn.length := by omega
 have hpj : (ds.opn.getD j default).place ≤ n := hplx _ (getD_mem' hjl)
 have hfb : (ds.files.getD q default).bytes.length ≤ n := hfl (nb (ds.files.getD q default)) (List.mem_map_of_mem (getD_mem' hq))
 have hrf := read_file (N := N) rfl hk4 hq hqg
 refine AW.mid (α := Unit) (fun _ => [(0, true, wp b), (1, true, .v (.int .i64 (j : Int))), (2, true, .v (.int .u64 (N : Int))), (11, true, .v (.slice (ds.files.getD q default).A (ds.files.getD q default).bytes.length (ds.files.getD q default).c))]) (fun _ => DSt b ds) (fun _ => True) ?_ ?_
 ·
  refine AW.regionP rfl ?_
  refine T1 (i := 0) rfl (freeMove rfl (E rfl rfl)) ?_
  refine T1 (i := 1) rfl (freeNil rfl (E rfl rfl)) ?_
  refine T1 (i := 2) rfl (freeField rfl fo_84_0 (E rfl rfl)) ?_
  refine T1 (i := 4) rfl (freeMove rfl (E rfl rfl)) ?_
  refine T1 (i := 5) rfl (freeMove rfl (E rfl rfl)) ?_
  refine T1 (i := 6) rfl (freeNil rfl (E rfl rfl)) ?_
  refine T1 (i := 7) rfl (freeField rfl fo_84_2 (E rfl rfl)) ?_
  refine T1 (i := 9) rfl (freeMove rfl (E rfl rfl)) ?_
  refine AWP.two (i := 3) (j := 8) (by kernel_rfl) rfl rfl ?_ ?_
  ·
   refine yl ag_80 0 (nl ?_)
   refine p1 8 ?_
   refine yl ag_81 0 (nl ?_)
   refine p1 10 ?_
   refine Y1 (Yv.indexRow (j := j) rfl ss_81 (i := 2) rfl (E rfl rfl) (E rfl rfl) (fun hg => by first | exact ⟨by omega, by omega⟩ | (simp only [Bool.or_eq_true, Bool.and_eq_true, Bool.or_eq_false_iff, Bool.and_eq_false_iff, Bool.not_eq_true', Bool.not_eq_false', decide_eq_true_eq, decide_eq_false_iff_not, Decidable.not_not] at hg; exact ⟨by omega, by omega⟩))) (nl ?_)
   refine p1 11 ?_
   refine Y1 (Yv.fieldEp rfl fo_110_1 eV) (nl ?_)
   refine p1 12 ?_
   refine Y1 (Yv.loadEp rfl ag_9 (i := 2) rfl (E rfl rfl) (fun hg => dnm_at (by first | omega | (simp only [Bool.or_eq_true, Bool.and_eq_true, Bool.or_eq_false_iff, Bool.and_eq_false_iff, Bool.not_eq_true', Bool.not_eq_false', decide_eq_true_eq, decide_eq_false_iff_not, Decidable.not_not] at hg; omega)))) (nl ?_)
   refine p1 13 ?_
   refine cA ce_42 rfl rfl rfl (find34 b ds n hw1 hn (ds.opn.getD j default).name) ?_
   rintro t61 S61 ⟨rfl, rfl⟩
   rw [hfq]
   refine nl ?_
   refine p1 14 ?_
   refine Y1 (Yv.indexRow (j := q) rfl ss_80 (i := 1) rfl (E rfl rfl) (E rfl rfl) (fun hg => by first | exact ⟨by omega, by omega⟩ | (simp only [Bool.or_eq_true, Bool.and_eq_true, Bool.or_eq_false_iff, Bool.and_eq_false_iff, Bool.not_eq_true', Bool.not_eq_false', decide_eq_true_eq, decide_eq_false_iff_not, Decidable.not_not] at hg; exact ⟨by omega, by omega⟩))) (nl ?_)
   refine p1 15 ?_
   refine Y1 (Yv.fieldEp rfl fo_141_1 eV) (nl ?_)
   refine p1 16 ?_
   refine Y1 (Yv.loadEp rfl ag_54 (i := 1) rfl (E rfl rfl) (fun hg => fby_at (by first | omega | (simp only [Bool.or_eq_true, Bool.and_eq_true, Bool.or_eq_false_iff, Bool.and_eq_false_iff, Bool.not_eq_true', Bool.not_eq_false', decide_eq_true_eq, decide_eq_false_iff_not, Decidable.not_not] at hg; omega)))) (nl ?_)
   refine p1 17 ?_
   refine ya ?_
   refine AWP.done (by kernel_rfl) ?_
   exact ⟨(), trivial, (su (su (su (su sn)))), rfl⟩
  ·
   refine yl ag_81 0 (nl ?_)
   refine T1 (i := 10) rfl (freeIdxRow (i := 2) rfl ss_81 rfl (E rfl rfl) (E rfl rfl) ⟨rfl, by omega⟩) ?_
   refine T1 (i := 11) rfl (freeFieldEp rfl fo_110_1 (E rfl rfl)) ?_
   refine AWP.two (i := 3) (j := 12) (by kernel_rfl) rfl rfl ?_ ?_
   ·
    refine yl ag_80 0 (nl ?_)
    refine p1 12 ?_
    refine Y1 (Yv.loadEp rfl ag_9 (i := 2) rfl (E rfl rfl) (fun hg => dnm_at (by first | omega | (simp only [Bool.or_eq_true, Bool.and_eq_true, Bool.or_eq_false_iff, Bool.and_eq_false_iff, Bool.not_eq_true', Bool.not_eq_false', decide_eq_true_eq, decide_eq_false_iff_not, Decidable.not_not] at hg; omega)))) (nl ?_)
    refine p1 13 ?_
    refine cA ce_42 rfl rfl rfl (find34 b ds n hw1 hn (ds.opn.getD j default).name) ?_
    rintro t61 S61 ⟨rfl, rfl⟩
    rw [hfq]
    refine nl ?_
    refine p1 14 ?_
    refine Y1 (Yv.indexRow (j := q) rfl ss_80 (i := 1) rfl (E rfl rfl) (E rfl rfl) (fun hg => by first | exact ⟨by omega, by omega⟩ | (simp only [Bool.or_eq_true, Bool.and_eq_true, Bool.or_eq_false_iff, Bool.and_eq_false_iff, Bool.not_eq_true', Bool.not_eq_false', decide_eq_true_eq, decide_eq_false_iff_not, Decidable.not_not] at hg; exact ⟨by omega, by omega⟩))) (nl ?_)
    refine p1 15 ?_
    refine Y1 (Yv.fieldEp rfl fo_141_1 eV) (nl ?_)
    refine p1 16 ?_
    refine Y1 (Yv.loadEp rfl ag_54 (i := 1) rfl (E rfl rfl) (fun hg => fby_at (by first | omega | (simp only [Bool.or_eq_true, Bool.and_eq_true, Bool.or_eq_false_iff, Bool.and_eq_false_iff, Bool.not_eq_true', Bool.not_eq_false', decide_eq_true_eq, decide_eq_false_iff_not, Decidable.not_not] at hg; omega)))) (nl ?_)
    refine p1 17 ?_
    refine ya ?_
    refine AWP.done (by kernel_rfl) ?_
    exact ⟨(), trivial, (su (su (su (su sn)))), rfl⟩
   ·
    refine Y1 (Yv.loadEp rfl ag_9 (i := 2) rfl (E rfl rfl) (fun hg => dnm_at (by first | omega | (simp only [Bool.or_eq_true, Bool.and_eq_true, Bool.or_eq_false_iff, Bool.and_eq_false_iff, Bool.not_eq_true', Bool.not_eq_false', decide_eq_true_eq, decide_eq_false_iff_not, Decidable.not_not] at hg; omega)))) (nl ?_)
    refine AWP.two (i := 3) (j := 13) (by kernel_rfl) rfl rfl ?_ ?_
    ·
     refine yl ag_80 0 (nl ?_)
     refine p1 13 ?_
     refine cA ce_42 rfl rfl rfl (find34 b ds n hw1 hn (ds.opn.getD j default).name) ?_
     rintro t61 S61 ⟨rfl, rfl⟩
     rw [hfq]
     refine nl ?_
     refine p1 14 ?_
     refine Y1 (Yv.indexRow (j := q) rfl ss_80 (i := 1) rfl (E rfl rfl) (E rfl rfl) (fun hg => by first | exact ⟨by omega, by omega⟩ | (simp only [Bool.or_eq_true, Bool.and_eq_true, Bool.or_eq_false_iff, Bool.and_eq_false_iff, Bool.not_eq_true', Bool.not_eq_false', decide_eq_true_eq, decide_eq_false_iff_not, Decidable.not_not] at hg; exact ⟨by omega, by omega⟩))) (nl ?_)
     refine p1 15 ?_
     refine Y1 (Yv.fieldEp rfl fo_141_1 eV) (nl ?_)
     refine p1 16 ?_
     refine Y1 (Yv.loadEp rfl ag_54 (i := 1) rfl (E rfl rfl) (fun hg => fby_at (by first | omega | (simp only [Bool.or_eq_true, Bool.and_eq_true, Bool.or_eq_false_iff, Bool.and_eq_false_iff, Bool.not_eq_true', Bool.not_eq_false', decide_eq_true_eq, decide_eq_false_iff_not, Decidable.not_not] at hg; omega)))) (nl ?_)
     refine p1 17 ?_
     refine ya ?_
     refine AWP.done (by kernel_rfl) ?_
     exact ⟨(), trivial, (su (su (su (su sn)))), rfl⟩
    ·
     refine cA ce_42 rfl rfl rfl (find34 b ds n hw1 hn (ds.opn.getD j default).name) ?_
     rintro t61 S61 ⟨rfl, rfl⟩
     rw [hfq]
     refine nl ?_
     refine p1 3 ?_
     refine yl ag_80 0 (nl ?_)
     refine p1 14 ?_
     refine Y1 (Yv.indexRow (j := q) rfl ss_80 (i := 1) rfl (E rfl rfl) (E rfl rfl) (fun hg => by first | exact ⟨by omega, by omega⟩ | (simp only [Bool.or_eq_true, Bool.and_eq_true, Bool.or_eq_false_iff, Bool.and_eq_false_iff, Bool.not_eq_true', Bool.not_eq_false', decide_eq_true_eq, decide_eq_false_iff_not, Decidable.not_not] at hg; exact ⟨by omega, by omega⟩))) (nl ?_)
     refine p1 15 ?_
     refine Y1 (Yv.fieldEp rfl fo_141_1 eV) (nl ?_)
     refine p1 16 ?_
     refine Y1 (Yv.loadEp rfl ag_54 (i := 1) rfl (E rfl rfl) (fun hg => fby_at (by first | omega | (simp only [Bool.or_eq_true, Bool.and_eq_true, Bool.or_eq_false_iff, Bool.and_eq_false_iff, Bool.not_eq_true', Bool.not_eq_false', decide_eq_true_eq, decide_eq_false_iff_not, Decidable.not_not] at hg; omega)))) (nl ?_)
     refine p1 17 ?_
     refine ya ?_
     refine AWP.done (by kernel_rfl) ?_
     exact ⟨(), trivial, (su (su (su (su sn)))), rfl⟩
 ·
  rintro _ hmid
  refine ra ?_
  refine AW.rowNil 5 1 ?_
  refine AW.perm (List.perm_append_singleton _ _).symm ?_
  refine AW.seq ?_
  refine AW.block ?_
  refine AW.loop3 (fun (k : Nat) (A : Option Addr) (c : Nat) => [(0, true, wp b), (1, true, .v (.int .i64 (j : Int))), (2, true, .v (.int .u64 (N : Int))), (11, true, .v (.slice (ds.files.getD q default).A (ds.files.getD q default).bytes.length (ds.files.getD q default).c)), (12, true, .v (.slice A k c))]) (fun (k : Nat) (A : Option Addr) (c : Nat) => (.row A k c 5 1 ((((ds.files.getD q default).bytes.drop (ds.opn.getD j default).place).take k).map u8) :: DSp b ds j ((ds.opn.getD j default).place + k))) (fun (k : Nat) (A : Option Addr) (c : Nat) => (ds.opn.getD j default).place + k ≤ max (ds.opn.getD j default).place (ds.files.getD q default).bytes.length ∧ k ≤ N) (fun (k : Nat) (A : Option Addr) (c : Nat) => N - k) 0 none 0 ?_ ?_ ?_ ?_
  ·exact ⟨Nat.le_max_left _ _, Nat.zero_le _⟩
  ·exact (su (su (su (su (su sn)))))
  ·exact congrArg (fun z => _ :: z) (dsp_self hjl).symm
  ·
   intro k A c hinv
   obtain ⟨hk1, hk2⟩ := hinv
   refine AW.seq ?_
   refine rs (ym ?_)
   refine Y1 (Yv.nilChk rfl eV) ?_
   refine yf fo_84_2 ?_
   refine yl ag_81 1 ?_
   refine ym ?_
   refine Y1 (Yv.indexRow (j := j) rfl ss_81 (i := 3) rfl eV eV (fun hg => ⟨rfl, by show j < (ds.opn.set j _).length; rw [List.length_set]; exact hjl⟩)) ?_
   refine Y1 (Yv.fieldEp rfl fo_110_2 eV) ?_
   refine Y1 (Yv.loadEp rfl ag_3 (i := 3) rfl eV (fun hg => dpl_set (by omega))) ?_
   refine ym ?_
   refine Y1 (Yv.lenV rfl so_54 eV) ?_
   refine Y1 (Yv.lss rfl eV eV) ?_
   refine ym ?_
   refine gT (Yv.move rfl eV) ?_
   refine gT (Yv.lenV rfl so_54 (Eg rfl rfl id)) ?_
   refine gT (Yv.convN_u64 rfl Tryz.underlying3 kd_22 (Eg rfl rfl id) (fun hg => by first | omega | (simp only [Bool.and_eq_true, Bool.or_eq_false_iff, Bool.not_eq_true', Bool.not_eq_false', decide_eq_true_eq, decide_eq_false_iff_not] at hg; omega))) ?_
   refine gT (Yv.move rfl eV) ?_
   refine gT (Yv.lss rfl (Eg rfl rfl id) (Eg rfl rfl id)) ?_
   refine Y1 (Yv.pickAnd rfl eV (Eg rfl rfl id)) (nl ?_)
   refine AW.cond rfl (fun h3t => ?_) (fun h3f => ?_)
   ·
    try replace h3t := odt h3t
    simp only [Bool.or_eq_true, Bool.and_eq_true, Bool.or_eq_false_iff, Bool.and_eq_false_iff, Bool.not_eq_true', Bool.not_eq_false', decide_eq_true_eq, decide_eq_false_iff_not, Decidable.not_not] at h3t
    have h3p : (((ds.opn.getD j default).place + k : Nat) : Int) < ((ds.files.getD q default).bytes.length : Int) := h3t.1
    have hlt : (ds.opn.getD j default).place + k < (ds.files.getD q default).bytes.length := by omega
    refine AW.skip ?_
    refine AW.block ?_
    refine rs (ym ?_)
    refine ym ?_
    refine ym ?_
    refine Y1 (Yv.nilChk rfl eV) ?_
    refine yf fo_84_2 ?_
    refine yl ag_81 1 ?_
    refine ym ?_
    refine Y1 (Yv.indexRow (j := j) rfl ss_81 (i := 3) rfl eV eV (fun hg => ⟨rfl, by show j < (ds.opn.set j _).length; rw [List.length_set]; exact hjl⟩)) ?_
    refine Y1 (Yv.fieldEp rfl fo_110_2 eV) ?_
    refine Y1 (Yv.loadEp rfl ag_3 (i := 3) rfl eV (fun hg => dpl_set (by omega))) ?_
    refine Y1 (Yv.indexRow (i := q + 5) (j := (ds.opn.getD j default).place + k) rfl ss_54 (dfile_rowp (b := b) hq) eV eV (fun hg => ⟨rfl, by omega⟩)) ?_
    refine Y1 (Yv.loadEp (i := q + 5) rfl ag_5 (dfile_rowp (b := b) hq) eV (fun hg => byte_at (by omega))) ?_
    refine AWL.buildSlice1 rfl rfl (B rfl) rfl el_54 rfl (evsC (E rfl rfl) evs0) nB rfl rfl ?_
    refine AWL.appendRow (i := 0) rfl rfl (B rfl) rfl el_54 (B rfl) rfl (E rfl rfl) (SrcT.sl so_54 (B rfl) (E rfl rfl) rfl) (by unfold maxLen; omega) (by omega) (fun A96 c96 => ?_)
    refine ya ?_
    refine AW.eqS (S' := .row A96 (k + 1) c96 5 1 ((((ds.files.getD q default).bytes.drop (ds.opn.getD j default).place).take (k + 1)).map u8) :: DSp b ds j ((ds.opn.getD j default).place + k)) (by
     rw [← take_step hlt]
     rfl) ?_
    refine AW.region ?_
    refine ym ?_
    refine Y1 (Yv.nilChk rfl eV) ?_
    refine yf fo_84_2 ?_
    refine yl ag_81 1 ?_
    refine ym ?_
    refine Y1 (Yv.indexRow (j := j) rfl ss_81 (i := 3) rfl eV eV (fun hg => ⟨rfl, by show j < (ds.opn.set j _).length; rw [List.length_set]; exact hjl⟩)) ?_
    refine Y1 (Yv.fieldEp rfl fo_110_2 eV) ?_
    refine Y1 (Yv.loadEp rfl ag_3 (i := 3) rfl eV (fun hg => dpl_set (by omega))) ?_
    refine Y1 (Yv.addN_i64 rfl eV eV (fun hg => by omega)) ?_
    refine Y1 (Yv.indexRow (j := j) rfl ss_81 (i := 3) rfl eV eV (fun hg => ⟨rfl, by show j < (ds.opn.set j _).length; rw [List.length_set]; exact hjl⟩)) ?_
    refine Y1 (Yv.fieldEp rfl fo_110_2 eV) ?_
    refine AWL.storeEp1 (i := 3) rfl rfl rfl ag_3 rfl (E rfl rfl) (E rfl rfl) rfl rfl (by rw [len_desc, List.length_set]; omega) (nl ?_)
    refine ⟨k + 1, A96, c96, ⟨by omega, by omega⟩, by omega, (su (su (su (su (Sub.cons rfl (by simp) Sub.nil))))), ?_⟩
    show _ = _ :: DSp b ds j ((ds.opn.getD j default).place + k + 1)
    rw [← dsp_step hjl]
    rfl
   try replace h3f := odf h3f
   simp only [Bool.or_eq_true, Bool.and_eq_true, Bool.or_eq_false_iff, Bool.and_eq_false_iff, Bool.not_eq_true', Bool.not_eq_false', decide_eq_true_eq, decide_eq_false_iff_not, Decidable.not_not] at h3f
   have h3f : ¬ (((ds.opn.getD j default).place + k : Nat) : Int) < ((ds.files.getD q default).bytes.length : Int) ∨ ¬ (k : Int) < (N : Int) := h3f
   refine AW.exit ?_
   refine rs (ym ?_)
   refine Y1 (Yv.bytesStrRow (i := 0) rfl by_54 st_9 rfl eV) ?_
   refine ym ?_
   refine Y1 (Yv.lenV rfl so_54 eV) ?_
   refine Y1 (Yv.assign rfl eV) ?_
   refine ya ?_
   refine AW.dropAt 0 ?_
   refine AW.ret (retI (.tmp rfl (.tmp rfl .nil)) ?_)
   have hkl : k ≤ ((ds.files.getD q default).bytes.drop (ds.opn.getD j default).place).length := by rw [List.length_drop]; omega
   have ek : ((ds.files.getD q default).bytes.drop (ds.opn.getD j default).place).take N = ((ds.files.getD q default).bytes.drop (ds.opn.getD j default).place).take k := by
    by_cases hN : N = k
    ·rw [hN]
    ·rw [List.take_of_length_le (by rw [List.length_drop]; omega), List.take_of_length_le (by rw [List.length_drop]; omega)]
   rw [hrf.1, hrf.2, ek, List.length_take, Nat.min_eq_left hkl]
   exact ⟨rfl, rfl⟩

end Go.Proofs.YtpgbpdnmjeoeoaaGreat.V

namespace Go.Proofs.YtpgbpdnmjeoeoaaGreat.V
open Go Go.RowKit
def dsW (ds : DS) (j q : Nat) (B : List UInt8) (A : Option Addr) (c p : Nat) : DS :=
 { ds with files := ds.files.set q ⟨(ds.files.getD q default).name, B, A, c⟩, opn := ds.opn.set j (atP (ds.opn.getD j default) p) }
theorem file_self {l : List FileR} {q : Nat} (h : q < l.length) : l.set q ⟨(l.getD q default).name, (l.getD q default).bytes, (l.getD q default).A, (l.getD q default).c⟩ = l := set_getD h
theorem dsw_self {ds : DS} {j q : Nat} (hj : j < ds.opn.length) (hq : q < ds.files.length) : dsW ds j q (ds.files.getD q default).bytes (ds.files.getD q default).A (ds.files.getD q default).c (ds.opn.getD j default).place = ds := by
 unfold dsW
 rw [atP_self, set_getD hj, file_self hq]
theorem fby_set {l : List FileR} {q : Nat} {f : FileR} (h : q < l.length) : ((l.set q f).flatMap fileCells)[q * 2 + 1]? = some (.v (.slice f.A f.bytes.length f.c)) := by
 rw [fby_at (by rw [List.length_set]; exact h), getD_set h]
theorem dsw_row {b j q : Nat} {ds : DS} {B : List UInt8} {A : Option Addr} {c p : Nat} (hq : q < ds.files.length) : (DSt b (dsW ds j q B A c p))[q + 4]? = some (.row A B.length c 5 1 (B.map u8)) := by
 rw [dfile_row (by show q < (ds.files.set q _).length; rw [List.length_set]; exact hq)]
 show some (fileRow ((ds.files.set q _).getD q default)) = _
 rw [getD_set hq]
 rfl
theorem dst_setrow {b q : Nat} {ds : DS} (r : Ent) : (DSt b ds).set (q + 4) r = .box b 84 (dCells ds) :: .row ds.lA ds.files.length ds.lc 141 2 (ds.files.flatMap fileCells) :: .row ds.dA ds.opn.length ds.dc 110 3 (ds.opn.flatMap descCells) :: .row ds.tA ds.trace.length ds.tc 86 3 (ds.trace.flatMap evCells) :: (ds.files.map fileRow).set q r := rfl
theorem dsw_byte {b j q i : Nat} {ds : DS} {B : List UInt8} {A : Option Addr} {c p : Nat} (x : UInt8) (hq : q < ds.files.length) (hi : i < B.length) :
    (DSt b (dsW ds j q B A c p)).set (q + 4) (.row A B.length c 5 1 ((B.map u8).set (i * 1) (u8 x))) = DSt b (dsW ds j q (B.set i x) A c p) := by
 rw [dst_setrow, Nat.mul_one]
 have e1 : ((dsW ds j q B A c p).files.map fileRow).set q (.row A B.length c 5 1 ((B.map u8).set i (u8 x))) = (dsW ds j q (B.set i x) A c p).files.map fileRow := by
  unfold dsW
  simp only
  rw [List.map_set, List.map_set, List.set_set]
  congr 1
  unfold fileRow
  simp only [List.length_set, List.map_set]
 have e2 : (dsW ds j q (B.set i x) A c p).files.flatMap fileCells = (dsW ds j q B A c p).files.flatMap fileCells := by
  unfold dsW
  simp only
  have a1 := fset_all (l := ds.files) (j := q) hq ⟨(ds.files.getD q default).name, B, A, c⟩
  have a2 := fset_all (l := ds.files) (j := q) hq ⟨(ds.files.getD q default).name, B.set i x, A, c⟩
  rw [← a1, ← a2]
  unfold fileCells
  simp only [List.length_set]
 rw [e1]
 unfold DSt
 rw [e2]
 unfold dsW dCells
 simp only [List.length_set]
theorem dsw_grow {b j q : Nat} {ds : DS} {B : List UInt8} {A A' : Option Addr} {c c' p : Nat} (hq : q < ds.files.length) :
    ((DSt b (dsW ds j q B A c p)).set (q + 4) (.row A' (B.length + 1) c' 5 1 (B.map u8 ++ [.v (.int .u8 0)]))).set 1 (.row ds.lA (ds.files.set q ⟨(ds.files.getD q default).name, B, A, c⟩).length ds.lc 141 2 (((ds.files.set q ⟨(ds.files.getD q default).name, B, A, c⟩).flatMap fileCells).set (q * 2 + 1) (.v (.slice A' (B.length + 1) c')))) = DSt b (dsW ds j q (B ++ [0]) A' c' p) := by
 rw [dst_setrow]
 have e0 := fset_bytes (l := ds.files.set q ⟨(ds.files.getD q default).name, B, A, c⟩) (j := q) (by rw [List.length_set]; exact hq) A' (B ++ [0]) c'
 simp only [getD_set hq, List.set_set] at e0
 have e1 : ((dsW ds j q B A c p).files.map fileRow).set q (.row A' (B.length + 1) c' 5 1 (B.map u8 ++ [.v (.int .u8 0)])) = (dsW ds j q (B ++ [0]) A' c' p).files.map fileRow := by
  unfold dsW
  simp only
  rw [List.map_set, List.map_set, List.set_set]
  congr 1
  unfold fileRow
  simp only [List.length_append, List.map_append]
  rfl
 rw [e1]
 rw [List.length_append] at e0
 show _ :: Ent.row _ _ _ _ _ (((ds.files.set q ⟨(ds.files.getD q default).name, B, A, c⟩).flatMap fileCells).set (q * 2 + 1) (.v (.slice A' (B.length + 1) c'))) :: _ = _
 rw [show B.length + 1 = B.length + [(0 : UInt8)].length from rfl, e0]
 unfold DSt dsW dCells
 simp only [List.length_set]
theorem dsw_place {b j q : Nat} {ds : DS} {B : List UInt8} {A : Option Addr} {c p : Nat} (hj : j < ds.opn.length) :
    (DSt b (dsW ds j q B A c p)).set 2 (.row ds.dA (ds.opn.set j (atP (ds.opn.getD j default) p)).length ds.dc 110 3 (((ds.opn.set j (atP (ds.opn.getD j default) p)).flatMap descCells).set (j * 3 + 2) (.v (.int .i64 ((p : Int) + 1))))) = DSt b (dsW ds j q B A c (p + 1)) := by
 have e := dset_place (l := ds.opn.set j (atP (ds.opn.getD j default) p)) (j := j) (by rw [List.length_set]; exact hj) (p + 1)
 simp only [getD_set hj, List.set_set] at e
 rw [show ((p : Int) + 1) = ((p + 1 : Nat) : Int) by omega, e]
 unfold DSt dsW dCells
 simp only [List.length_set]
 rfl
theorem padTo_succ {B : List UInt8} {m : Nat} (h : B.length ≤ m) : padTo B m ++ [0] = padTo B (m + 1) := by
 unfold padTo
 rw [show m + 1 - B.length = (m - B.length) + 1 by omega, List.replicate_succ', List.append_assoc]
theorem padTo_at {B : List UInt8} {m : Nat} (h : B.length ≤ m) : (padTo B m).length = m := by
 rw [padTo_len]
 omega
theorem padTo_out {B : List UInt8} {m p : Nat} (h1 : B.length ≤ m) (h2 : m ≤ p + 1 ∨ m = B.length) (h3 : p < m) : padTo B m = padTo B (p + 1) := by
 rcases h2 with h | h
 ·rw [show m = p + 1 by omega]
 rw [padTo_id (by omega), padTo_id (by omega)]
theorem take_c {s : List UInt8} {k : Nat} (h : k < s.length) : s.take (k + 1) = s.take k ++ [s.getD k 0] := by
 rw [List.take_add_one, List.getElem?_eq_getElem h, List.getD_eq_getElem?_getD, List.getElem?_eq_getElem h]
 rfl
theorem take_cl {s : List UInt8} {k : Nat} (h : k ≤ s.length) : (s.take k).length = k := by
 rw [List.length_take]
 omega
theorem wr_le {l : List UInt8} {p : Nat} {s : List UInt8} : (wr l p s).length ≤ max l.length (p + s.length) := by
 rw [wr_len]
 split <;> omega
theorem write_file {ds : DS} {j q : Nat} {s : List UInt8} {A tA : Option Addr} {c tc : Nat} (hj : j < ds.opn.length) (hk : kindP (j : Int) (pl ds) = 5) (hq : q < ds.files.length) (hn : (ds.files.getD q default).name = (ds.opn.getD j default).name)
    (hg : getP (ds.opn.getD j default).name (pl ds).files = some (ds.files.getD q default).bytes) (hp : ∀ x, putP (ds.opn.getD j default).name x (pl ds).files = (pl ds).files.set q ((ds.opn.getD j default).name, x)) :
    pl { dsW ds j q (wr (ds.files.getD q default).bytes (ds.opn.getD j default).place s) A c ((ds.opn.getD j default).place + s.length) with trace := sayF 3 (ds.opn.getD j default).name s ds.trace, tA := tA, tc := tc } = writeP (j : Int) s (pl ds) := by
 have e : ((pl ds).opn.getD (j : Int).toNat default) = ds.opn.getD j default := rfl
 have ef : (dsW ds j q (wr (ds.files.getD q default).bytes (ds.opn.getD j default).place s) A c ((ds.opn.getD j default).place + s.length)).files.map nb = (pl ds).files.set q ((ds.opn.getD j default).name, wr (ds.files.getD q default).bytes (ds.opn.getD j default).place s) := by
  unfold dsW pl
  simp only
  rw [List.map_set, ← hn]
  rfl
 unfold writeP
 rw [hk, if_neg (by decide), if_neg (by decide), if_pos rfl, e, hg]
 by_cases hs : s = []
 ·rw [if_pos hs]
  subst hs
  unfold pl
  simp only
  rw [ef]
  unfold dsW
  simp only [List.length_nil, Nat.add_zero]
  rw [atP_self, set_getD hj, sayF_nil, wr_nil]
  have e2 : (pl ds).files.set q ((ds.opn.getD j default).name, (ds.files.getD q default).bytes) = (pl ds).files := by
   have hq' : q < (pl ds).files.length := by unfold pl; rw [List.length_map]; exact hq
   have e3 : (pl ds).files.getD q default = ((ds.opn.getD j default).name, (ds.files.getD q default).bytes) := by
    unfold pl
    rw [nb_at hq, ← hn]
    rfl
   rw [← e3, set_getD hq']
  rw [e2]
  rfl
 rw [if_neg hs, hp]
 unfold pl
 simp only
 rw [ef, wr_cons hs]
 rfl
theorem pb_wrote {n j q : Nat} {ds : DS} {B : List UInt8} {A : Option Addr} {c p m : Nat} (h : PB n (pl ds)) (hm : n ≤ m) (hB : B.length ≤ m) (hp : p ≤ m) : PB m (pl (dsW ds j q B A c p)) := by
 refine ⟨?_, Nat.le_trans h.tr hm, fun e he => Nat.le_trans (h.txt e he) hm, fun f hf => ?_, fun d hd => ?_, Nat.le_trans h.sin hm, ?_⟩
 ·show (ds.opn.set j _).length = 19
  rw [List.length_set]
  exact h.opn
 ·have hf : f ∈ (ds.files.set q _).map nb := hf
  obtain ⟨x, hx, rfl⟩ := List.mem_map.1 hf
  rcases List.mem_or_eq_of_mem_set hx with hx | rfl
  ·exact Nat.le_trans (h.fl (nb x) (List.mem_map_of_mem hx)) hm
  exact hB
 ·have hd : d ∈ ds.opn.set j _ := hd
  rcases List.mem_or_eq_of_mem_set hd with hd | rfl
  ·exact Nat.le_trans (h.pl d hd) hm
  exact hp
 show ((ds.files.set q _).map nb).length ≤ m
 have := h.nf
 unfold pl at this
 rw [List.length_map] at this
 rw [List.length_map, List.length_set]
 omega
end Go.Proofs.YtpgbpdnmjeoeoaaGreat.V

namespace Go.Proofs.YtpgbpdnmjeoeoaaGreat.V
open Go Go.RowKit

set_option maxHeartbeats 4000000 in
theorem SysWrite40 (b : Nat) (ds : DS) (n : Nat) (hw : PB n (pl ds)) (hn : n ≤ 549755813888) (hnm : Named (pl ds)) (fd : Int) (s : List UInt8) (hs : s.length ≤ 549755813888) :
    ACalls Tryz.prog 126 [wp b, .v (.int .i64 fd), sv s] (DSt b ds) (fun t S => t = .v (.int .i64 (writeV fd s (pl ds))) ∧ ∃ ds', pl ds' = writeP fd s (pl ds) ∧ S = DSt b ds') := by
 have hw1 := hw
 obtain ⟨ho, htr, htx, hfl, hpl, hsi, hnf⟩ := hw
 have ho : ds.opn.length = 19 := ho
 have htr : ds.trace.length ≤ n := htr
 have hsi : ds.stdin.length ≤ n := hsi
 have hnf : ds.files.length ≤ n := by have h := hnf; unfold pl at h; rwa [List.length_map] at h
 have htxt : ∀ e ∈ ds.trace, e.text.length ≤ n := htx
 have hplx : ∀ d ∈ ds.opn, d.place ≤ n := hpl
 refine ACalls.intro Tryz.func126 rfl Tryz.ntmps126 nB rfl fun X w0 => ?_
 refine ra ?_
 refine AW.seq ?_
 refine rs (ym ?_)
 refine ym ?_
 refine cA ce_137 rfl rfl rfl (kind56 b ds n hw1 (by omega) fd) ?_
 rintro t11 S11 ⟨rfl, rfl⟩
 refine nl ?_
 refine AW.block ?_
 refine rs (Y1 (Yv.eql rfl eV eV) ?_)
 refine ya ?_
 refine AW.cond rfl (fun h0t => ?_) (fun h0f => ?_)
 ·
  try replace h0t := odt h0t
  refine AW.region ?_
  refine ym ?_
  refine ym ?_
  refine cA ce_138 rfl rfl rfl (say57 b ds n hw1 (by omega) 1 [] s (by omega)) ?_
  rintro t16 S16 ⟨rfl, A16, c16, rfl⟩
  refine nl ?_
  refine rs (ym ?_)
  refine Y1 (Yv.lenL rfl st_9 eV) ?_
  refine ya ?_
  refine AW.ret (retI (.tmp rfl .nil) ?_)
  refine ⟨by unfold writeV; rw [if_pos (.inl h0t)]; rfl, { ds with trace := sayF 1 [] s ds.trace, tA := A16, tc := c16 }, ?_, rfl⟩
  unfold writeP
  rw [if_pos h0t]
  rfl
 try replace h0f := odf h0f
 refine rs (Y1 (Yv.eql rfl eV eV) ?_)
 refine ya ?_
 refine AW.cond rfl (fun h1t => ?_) (fun h1f => ?_)
 ·
  try replace h1t := odt h1t
  refine AW.region ?_
  refine ym ?_
  refine ym ?_
  refine cA ce_138 rfl rfl rfl (say57 b ds n hw1 (by omega) 2 [] s (by omega)) ?_
  rintro t21 S21 ⟨rfl, A21, c21, rfl⟩
  refine nl ?_
  refine rs (ym ?_)
  refine Y1 (Yv.lenL rfl st_9 eV) ?_
  refine ya ?_
  refine AW.ret (retI (.tmp rfl .nil) ?_)
  refine ⟨by unfold writeV; rw [if_pos (.inr (.inl h1t))]; rfl, { ds with trace := sayF 2 [] s ds.trace, tA := A21, tc := c21 }, ?_, rfl⟩
  unfold writeP
  rw [if_neg h0f, if_pos h1t]
  rfl
 try replace h1f := odf h1f
 refine rs (Y1 (Yv.eql rfl eV eV) ?_)
 refine ya ?_
 refine AW.cond rfl (fun h2t => ?_) (fun h2f => ?_)
 ·
  try replace h2t := odt h2t
  have hk5 : kindP fd (pl ds) = 5 := h2t
  obtain ⟨hf0, hf1, hfl', hmem, hke⟩ := kind_in hnm (fd := fd) (by rw [hk5]; decide)
  obtain ⟨j, rfl⟩ : ∃ j : Nat, fd = (j : Int) := ⟨fd.toNat, by omega⟩
  have hsome := hnm.2 _ hmem (.inr (by rw [← hke]; exact hk5))
  have hsome : (getP (ds.opn.getD j default).name (pl ds).files).isSome = true := hsome
  obtain ⟨q, hfq, hq, hqn, hqg, hqp⟩ := (findP_get (name := (ds.opn.getD j default).name) (l := (pl ds).files)).resolve_left (fun h => by rw [h.2] at hsome; cases hsome)
  have hq : q < ds.files.length := by have h := hq; unfold pl at h; rwa [List.length_map] at h
  have hqn : (ds.files.getD q default).name = (ds.opn.getD j default).name := by have h := hqn; unfold pl at h; rwa [nb_at hq] at h
  have hqg : getP (ds.opn.getD j default).name (pl ds).files = some (ds.files.getD q default).bytes := by
   rw [hqg]
   unfold pl
   rw [nb_at hq]
   rfl
  have hjl : j < ds.opn.length := by omega
  have hpj : (ds.opn.getD j default).place ≤ n := hplx _ (getD_mem' hjl)
  have hfb : (ds.files.getD q default).bytes.length ≤ n := hfl (nb (ds.files.getD q default)) (List.mem_map_of_mem (getD_mem' hq))
  refine rs (ym ?_)
  refine ym ?_
  refine Y1 (Yv.nilChk rfl eV) ?_
  refine yf fo_84_2 ?_
  refine yl ag_81 0 ?_
  refine ym ?_
  refine Y1 (Yv.indexRow (j := j) rfl ss_81 (i := 2) rfl (E rfl rfl) (E rfl rfl) (fun hg => by first | exact ⟨by omega, by omega⟩ | (simp only [Bool.or_eq_true, Bool.and_eq_true, Bool.or_eq_false_iff, Bool.and_eq_false_iff, Bool.not_eq_true', Bool.not_eq_false', decide_eq_true_eq, decide_eq_false_iff_not, Decidable.not_not] at hg; exact ⟨by omega, by omega⟩))) ?_
  refine Y1 (Yv.fieldEp rfl fo_110_1 eV) ?_
  refine Y1 (Yv.loadEp rfl ag_9 (i := 2) rfl (E rfl rfl) (fun hg => dnm_at (by first | omega | (simp only [Bool.or_eq_true, Bool.and_eq_true, Bool.or_eq_false_iff, Bool.and_eq_false_iff, Bool.not_eq_true', Bool.not_eq_false', decide_eq_true_eq, decide_eq_false_iff_not, Decidable.not_not] at hg; omega)))) ?_
  refine cA ce_42 rfl rfl rfl (find34 b ds n hw1 (by omega) (ds.opn.getD j default).name) ?_
  rintro t33 S33 ⟨rfl, rfl⟩
  rw [hfq]
  refine ya ?_
  refine AW.seq ?_
  refine ra ?_
  refine AW.block ?_
  refine AW.loop3 (fun (k : Nat) (A : Option Addr) (c : Nat) => [(0, true, wp b), (1, true, .v (.int .i64 (j : Int))), (2, true, sv s), (7, true, .v (.int .i64 (q : Int))), (8, true, .v (.int .i64 (k : Int)))]) (fun (k : Nat) (A : Option Addr) (c : Nat) => (DSt b (dsW ds j q (wr (ds.files.getD q default).bytes (ds.opn.getD j default).place (s.take k)) A c ((ds.opn.getD j default).place + k)))) (fun (k : Nat) (A : Option Addr) (c : Nat) => k ≤ s.length) (fun (k : Nat) (A : Option Addr) (c : Nat) => s.length - k) 0 ((ds.files.getD q default).A) ((ds.files.getD q default).c) ?_ ?_ ?_ ?_
  ·exact Nat.zero_le _
  ·exact (su (su (su (su (su sn)))))
  ·rw [List.take_zero, wr_nil, Nat.add_zero, dsw_self hjl hq]
  ·
   intro k A c hinv
   have htk := take_cl hinv
   have hwl := wr_le (l := (ds.files.getD q default).bytes) (p := (ds.opn.getD j default).place) (s := s.take k)
   rw [htk] at hwl
   refine AW.seq ?_
   refine rs (ym ?_)
   refine ym ?_
   refine Y1 (Yv.lenL rfl st_9 eV) ?_
   refine Y1 (Yv.lss rfl eV eV) (nl ?_)
   refine AW.cond rfl (fun h3t => ?_) (fun h3f => ?_)
   ·
    try replace h3t := odt h3t
    refine AW.skip ?_
    refine AW.seq ?_
    refine AW.block ?_
    refine AW.seq ?_
    refine AW.block ?_
    refine AW.loop3 (fun (m : Nat) (A1 : Option Addr) (c1 : Nat) => [(0, true, wp b), (1, true, .v (.int .i64 (j : Int))), (2, true, sv s), (7, true, .v (.int .i64 (q : Int))), (8, true, .v (.int .i64 (k : Int)))]) (fun (m : Nat) (A1 : Option Addr) (c1 : Nat) => (DSt b (dsW ds j q (padTo (wr (ds.files.getD q default).bytes (ds.opn.getD j default).place (s.take k)) m) A1 c1 ((ds.opn.getD j default).place + k)))) (fun (m : Nat) (A1 : Option Addr) (c1 : Nat) => (wr (ds.files.getD q default).bytes (ds.opn.getD j default).place (s.take k)).length ≤ m ∧ (m ≤ (ds.opn.getD j default).place + k + 1 ∨ m = (wr (ds.files.getD q default).bytes (ds.opn.getD j default).place (s.take k)).length)) (fun (m : Nat) (A1 : Option Addr) (c1 : Nat) => (ds.opn.getD j default).place + k + 1 - m) ((wr (ds.files.getD q default).bytes (ds.opn.getD j default).place (s.take k)).length) A c ?_ ?_ ?_ ?_
    ·exact ⟨Nat.le_refl _, .inr rfl⟩
    ·exact (su (su (su (su (su sn)))))
    ·rw [padTo_id (Nat.le_refl _)]
    ·
     intro m A1 c1 hinm
     obtain ⟨hm1, hm2⟩ := hinm
     have hpm := padTo_at hm1
     refine AW.seq ?_
     refine AW.rseqQ rfl (by kernel_rfl) ?_
     refine qm ?_
     refine Q1 (Yv.nilChk rfl eV) ?_
     refine qf fo_84_0 ?_
     refine ql ag_80 0 ?_
     refine qm ?_
     refine Q1 (Yv.indexRow (j := q) rfl ss_80 (i := 1) rfl eV eV (fun hg => ⟨rfl, by show q < (ds.files.set q _).length; rw [List.length_set]; exact hq⟩)) ?_
     refine Q1 (Yv.fieldEp rfl fo_141_1 eV) ?_
     refine Q1 (Yv.loadEp rfl ag_54 (i := 1) rfl eV (fun hg => fby_set hq)) ?_
     refine Q1 (Yv.lenV rfl so_54 eV) ?_
     refine qm ?_
     refine Q1 (Yv.nilChk rfl eV) ?_
     refine qf fo_84_2 ?_
     refine ql ag_81 0 ?_
     refine qm ?_
     refine Q1 (Yv.indexRow (j := j) rfl ss_81 (i := 2) rfl eV eV (fun hg => ⟨rfl, by show j < (ds.opn.set j _).length; rw [List.length_set]; exact hjl⟩)) ?_
     refine Q1 (Yv.fieldEp rfl fo_110_2 eV) ?_
     refine Q1 (Yv.loadEp rfl ag_3 (i := 2) rfl eV (fun hg => dpl_set hjl)) ?_
     refine Q1 (Yv.leq rfl eV eV) ?_
     refine AWQ.nil ?_
     refine AW.cond rfl (fun h4t => ?_) (fun h4f => ?_)
     ·
      try replace h4t := odt h4t
      have hle : m ≤ (ds.opn.getD j default).place + k := by
       have h : ((padTo (wr (ds.files.getD q default).bytes (ds.opn.getD j default).place (s.take k)) m).length : Int) ≤ (((ds.opn.getD j default).place + k : Nat) : Int) := h4t
       omega
      refine AW.skip ?_
      refine AW.block ?_
      refine AW.regionP rfl ?_
      refine T1 (i := 0) rfl (freeMove rfl (E rfl rfl)) ?_
      refine T1 (i := 1) rfl (freeNil rfl (E rfl rfl)) ?_
      refine T1 (i := 2) rfl (freeField rfl fo_84_0 (E rfl rfl)) ?_
      refine T1 (i := 4) rfl (freeMove rfl (E rfl rfl)) ?_
      refine T1 (i := 5) rfl (freeMove rfl (E rfl rfl)) ?_
      refine T1 (i := 6) rfl (freeNil rfl (E rfl rfl)) ?_
      refine T1 (i := 7) rfl (freeField rfl fo_84_0 (E rfl rfl)) ?_
      refine T1 (i := 9) rfl (freeMove rfl (E rfl rfl)) ?_
      refine AWP.three (i := 3) (j := 8) (k := 13) (by kernel_rfl) rfl rfl rfl ?_ ?_ ?_
      ·
       refine yl ag_80 0 (nl ?_)
       refine AWP.two (i := 8) (j := 13) (by kernel_rfl) rfl rfl ?_ ?_
       ·
        refine yl ag_80 0 (nl ?_)
        refine T1 (i := 10) rfl (freeIdxRow (i := 1) rfl ss_80 rfl (E rfl rfl) (E rfl rfl) ⟨rfl, by show q < (ds.files.set q _).length; rw [List.length_set]; exact hq⟩) ?_
        refine T1 (i := 11) rfl (freeFieldEp rfl fo_141_1 (E rfl rfl)) ?_
        refine AWP.two (i := 12) (j := 13) (by kernel_rfl) rfl rfl ?_ ?_
        ·
         refine Y1 (Yv.loadEp rfl ag_54 (i := 1) rfl eV (fun hg => fby_set hq)) (nl ?_)
         refine p1 13 ?_
         refine AWL.buildSlice1 rfl rfl (B rfl) rfl el_54 rfl (evsC (E rfl rfl) evs0) nB rfl rfl (nl ?_)
         refine p1 14 ?_
         refine AWL.appendRow (i := q + 4) rfl rfl (B rfl) rfl el_54 (B rfl) (dsw_row hq) (E rfl rfl) (SrcT.sl so_54 (B rfl) (E rfl rfl) rfl) (by rw [hpm]; unfold maxLen; omega) (by rw [hpm]; omega) (fun A72 c72 => ?_)
         refine nl ?_
         refine p1 15 ?_
         refine Y1 (Yv.indexRow (j := q) rfl ss_80 (i := 1) rfl eV eV (fun hg => ⟨rfl, by show q < (ds.files.set q _).length; rw [List.length_set]; exact hq⟩)) (nl ?_)
         refine p1 16 ?_
         refine Y1 (Yv.fieldEp rfl fo_141_1 eV) (nl ?_)
         refine p1 17 ?_
         refine AWL.storeEp1 (i := 1) rfl rfl rfl ag_54 rfl (E rfl rfl) (E rfl rfl) rfl rfl (by rw [len_files]; show _ < (ds.files.set q _).length * 2; rw [List.length_set]; omega) (nl ?_)
         refine AWP.done (by kernel_rfl) ?_
         refine ⟨m + 1, A72, c72, ⟨by omega, by omega⟩, by omega, (su (su (su (su (su sn))))), ?_⟩
         rw [← padTo_succ hm1, ← dsw_grow hq]
         rfl
        ·
         refine AWL.buildSlice1 rfl rfl (B rfl) rfl el_54 rfl (evsC (E rfl rfl) evs0) nB rfl rfl (nl ?_)
         refine p1 12 ?_
         refine Y1 (Yv.loadEp rfl ag_54 (i := 1) rfl eV (fun hg => fby_set hq)) (nl ?_)
         refine p1 14 ?_
         refine AWL.appendRow (i := q + 4) rfl rfl (B rfl) rfl el_54 (B rfl) (dsw_row hq) (E rfl rfl) (SrcT.sl so_54 (B rfl) (E rfl rfl) rfl) (by rw [hpm]; unfold maxLen; omega) (by rw [hpm]; omega) (fun A72 c72 => ?_)
         refine nl ?_
         refine p1 15 ?_
         refine Y1 (Yv.indexRow (j := q) rfl ss_80 (i := 1) rfl eV eV (fun hg => ⟨rfl, by show q < (ds.files.set q _).length; rw [List.length_set]; exact hq⟩)) (nl ?_)
         refine p1 16 ?_
         refine Y1 (Yv.fieldEp rfl fo_141_1 eV) (nl ?_)
         refine p1 17 ?_
         refine AWL.storeEp1 (i := 1) rfl rfl rfl ag_54 rfl (E rfl rfl) (E rfl rfl) rfl rfl (by rw [len_files]; show _ < (ds.files.set q _).length * 2; rw [List.length_set]; omega) (nl ?_)
         refine AWP.done (by kernel_rfl) ?_
         refine ⟨m + 1, A72, c72, ⟨by omega, by omega⟩, by omega, (su (su (su (su (su sn))))), ?_⟩
         rw [← padTo_succ hm1, ← dsw_grow hq]
         rfl
       ·
        refine AWL.buildSlice1 rfl rfl (B rfl) rfl el_54 rfl (evsC (E rfl rfl) evs0) nB rfl rfl (nl ?_)
        refine p1 8 ?_
        refine yl ag_80 0 (nl ?_)
        refine p1 10 ?_
        refine Y1 (Yv.indexRow (j := q) rfl ss_80 (i := 1) rfl eV eV (fun hg => ⟨rfl, by show q < (ds.files.set q _).length; rw [List.length_set]; exact hq⟩)) (nl ?_)
        refine p1 11 ?_
        refine Y1 (Yv.fieldEp rfl fo_141_1 eV) (nl ?_)
        refine p1 12 ?_
        refine Y1 (Yv.loadEp rfl ag_54 (i := 1) rfl eV (fun hg => fby_set hq)) (nl ?_)
        refine p1 14 ?_
        refine AWL.appendRow (i := q + 4) rfl rfl (B rfl) rfl el_54 (B rfl) (dsw_row hq) (E rfl rfl) (SrcT.sl so_54 (B rfl) (E rfl rfl) rfl) (by rw [hpm]; unfold maxLen; omega) (by rw [hpm]; omega) (fun A72 c72 => ?_)
        refine nl ?_
        refine p1 15 ?_
        refine Y1 (Yv.indexRow (j := q) rfl ss_80 (i := 1) rfl eV eV (fun hg => ⟨rfl, by show q < (ds.files.set q _).length; rw [List.length_set]; exact hq⟩)) (nl ?_)
        refine p1 16 ?_
        refine Y1 (Yv.fieldEp rfl fo_141_1 eV) (nl ?_)
        refine p1 17 ?_
        refine AWL.storeEp1 (i := 1) rfl rfl rfl ag_54 rfl (E rfl rfl) (E rfl rfl) rfl rfl (by rw [len_files]; show _ < (ds.files.set q _).length * 2; rw [List.length_set]; omega) (nl ?_)
        refine AWP.done (by kernel_rfl) ?_
        refine ⟨m + 1, A72, c72, ⟨by omega, by omega⟩, by omega, (su (su (su (su (su sn))))), ?_⟩
        rw [← padTo_succ hm1, ← dsw_grow hq]
        rfl
      ·
       refine yl ag_80 0 (nl ?_)
       refine T1 (i := 10) rfl (freeIdxRow (i := 1) rfl ss_80 rfl (E rfl rfl) (E rfl rfl) ⟨rfl, by show q < (ds.files.set q _).length; rw [List.length_set]; exact hq⟩) ?_
       refine T1 (i := 11) rfl (freeFieldEp rfl fo_141_1 (E rfl rfl)) ?_
       refine AWP.three (i := 3) (j := 12) (k := 13) (by kernel_rfl) rfl rfl rfl ?_ ?_ ?_
       ·
        refine yl ag_80 0 (nl ?_)
        refine AWP.two (i := 12) (j := 13) (by kernel_rfl) rfl rfl ?_ ?_
        ·
         refine Y1 (Yv.loadEp rfl ag_54 (i := 1) rfl eV (fun hg => fby_set hq)) (nl ?_)
         refine p1 13 ?_
         refine AWL.buildSlice1 rfl rfl (B rfl) rfl el_54 rfl (evsC (E rfl rfl) evs0) nB rfl rfl (nl ?_)
         refine p1 14 ?_
         refine AWL.appendRow (i := q + 4) rfl rfl (B rfl) rfl el_54 (B rfl) (dsw_row hq) (E rfl rfl) (SrcT.sl so_54 (B rfl) (E rfl rfl) rfl) (by rw [hpm]; unfold maxLen; omega) (by rw [hpm]; omega) (fun A72 c72 => ?_)
         refine nl ?_
         refine p1 15 ?_
         refine Y1 (Yv.indexRow (j := q) rfl ss_80 (i := 1) rfl eV eV (fun hg => ⟨rfl, by show q < (ds.files.set q _).length; rw [List.length_set]; exact hq⟩)) (nl ?_)
         refine p1 16 ?_
         refine Y1 (Yv.fieldEp rfl fo_141_1 eV) (nl ?_)
         refine p1 17 ?_
         refine AWL.storeEp1 (i := 1) rfl rfl rfl ag_54 rfl (E rfl rfl) (E rfl rfl) rfl rfl (by rw [len_files]; show _ < (ds.files.set q _).length * 2; rw [List.length_set]; omega) (nl ?_)
         refine AWP.done (by kernel_rfl) ?_
         refine ⟨m + 1, A72, c72, ⟨by omega, by omega⟩, by omega, (su (su (su (su (su sn))))), ?_⟩
         rw [← padTo_succ hm1, ← dsw_grow hq]
         rfl
        ·
         refine AWL.buildSlice1 rfl rfl (B rfl) rfl el_54 rfl (evsC (E rfl rfl) evs0) nB rfl rfl (nl ?_)
         refine p1 12 ?_
         refine Y1 (Yv.loadEp rfl ag_54 (i := 1) rfl eV (fun hg => fby_set hq)) (nl ?_)
         refine p1 14 ?_
         refine AWL.appendRow (i := q + 4) rfl rfl (B rfl) rfl el_54 (B rfl) (dsw_row hq) (E rfl rfl) (SrcT.sl so_54 (B rfl) (E rfl rfl) rfl) (by rw [hpm]; unfold maxLen; omega) (by rw [hpm]; omega) (fun A72 c72 => ?_)
         refine nl ?_
         refine p1 15 ?_
         refine Y1 (Yv.indexRow (j := q) rfl ss_80 (i := 1) rfl eV eV (fun hg => ⟨rfl, by show q < (ds.files.set q _).length; rw [List.length_set]; exact hq⟩)) (nl ?_)
         refine p1 16 ?_
         refine Y1 (Yv.fieldEp rfl fo_141_1 eV) (nl ?_)
         refine p1 17 ?_
         refine AWL.storeEp1 (i := 1) rfl rfl rfl ag_54 rfl (E rfl rfl) (E rfl rfl) rfl rfl (by rw [len_files]; show _ < (ds.files.set q _).length * 2; rw [List.length_set]; omega) (nl ?_)
         refine AWP.done (by kernel_rfl) ?_
         refine ⟨m + 1, A72, c72, ⟨by omega, by omega⟩, by omega, (su (su (su (su (su sn))))), ?_⟩
         rw [← padTo_succ hm1, ← dsw_grow hq]
         rfl
       ·
        refine Y1 (Yv.loadEp rfl ag_54 (i := 1) rfl eV (fun hg => fby_set hq)) (nl ?_)
        refine AWP.two (i := 3) (j := 13) (by kernel_rfl) rfl rfl ?_ ?_
        ·
         refine yl ag_80 0 (nl ?_)
         refine p1 13 ?_
         refine AWL.buildSlice1 rfl rfl (B rfl) rfl el_54 rfl (evsC (E rfl rfl) evs0) nB rfl rfl (nl ?_)
         refine p1 14 ?_
         refine AWL.appendRow (i := q + 4) rfl rfl (B rfl) rfl el_54 (B rfl) (dsw_row hq) (E rfl rfl) (SrcT.sl so_54 (B rfl) (E rfl rfl) rfl) (by rw [hpm]; unfold maxLen; omega) (by rw [hpm]; omega) (fun A72 c72 => ?_)
         refine nl ?_
         refine p1 15 ?_
         refine Y1 (Yv.indexRow (j := q) rfl ss_80 (i := 1) rfl eV eV (fun hg => ⟨rfl, by show q < (ds.files.set q _).length; rw [List.length_set]; exact hq⟩)) (nl ?_)
         refine p1 16 ?_
         refine Y1 (Yv.fieldEp rfl fo_141_1 eV) (nl ?_)
         refine p1 17 ?_
         refine AWL.storeEp1 (i := 1) rfl rfl rfl ag_54 rfl (E rfl rfl) (E rfl rfl) rfl rfl (by rw [len_files]; show _ < (ds.files.set q _).length * 2; rw [List.length_set]; omega) (nl ?_)
         refine AWP.done (by kernel_rfl) ?_
         refine ⟨m + 1, A72, c72, ⟨by omega, by omega⟩, by omega, (su (su (su (su (su sn))))), ?_⟩
         rw [← padTo_succ hm1, ← dsw_grow hq]
         rfl
        ·
         refine AWL.buildSlice1 rfl rfl (B rfl) rfl el_54 rfl (evsC (E rfl rfl) evs0) nB rfl rfl (nl ?_)
         refine AWP.two (i := 3) (j := 14) (by kernel_rfl) rfl rfl ?_ ?_
         ·
          refine yl ag_80 0 (nl ?_)
          refine p1 14 ?_
          refine AWL.appendRow (i := q + 4) rfl rfl (B rfl) rfl el_54 (B rfl) (dsw_row hq) (E rfl rfl) (SrcT.sl so_54 (B rfl) (E rfl rfl) rfl) (by rw [hpm]; unfold maxLen; omega) (by rw [hpm]; omega) (fun A72 c72 => ?_)
          refine nl ?_
          refine p1 15 ?_
          refine Y1 (Yv.indexRow (j := q) rfl ss_80 (i := 1) rfl eV eV (fun hg => ⟨rfl, by show q < (ds.files.set q _).length; rw [List.length_set]; exact hq⟩)) (nl ?_)
          refine p1 16 ?_
          refine Y1 (Yv.fieldEp rfl fo_141_1 eV) (nl ?_)
          refine p1 17 ?_
          refine AWL.storeEp1 (i := 1) rfl rfl rfl ag_54 rfl (E rfl rfl) (E rfl rfl) rfl rfl (by rw [len_files]; show _ < (ds.files.set q _).length * 2; rw [List.length_set]; omega) (nl ?_)
          refine AWP.done (by kernel_rfl) ?_
          refine ⟨m + 1, A72, c72, ⟨by omega, by omega⟩, by omega, (su (su (su (su (su sn))))), ?_⟩
          rw [← padTo_succ hm1, ← dsw_grow hq]
          rfl
         ·
          refine AWL.appendRow (i := q + 4) rfl rfl (B rfl) rfl el_54 (B rfl) (dsw_row hq) (E rfl rfl) (SrcT.sl so_54 (B rfl) (E rfl rfl) rfl) (by rw [hpm]; unfold maxLen; omega) (by rw [hpm]; omega) (fun A72 c72 => ?_)
          refine nl ?_
          refine p1 3 ?_
          refine yl ag_80 0 (nl ?_)
          refine p1 15 ?_
          refine Y1 (Yv.indexRow (j := q) rfl ss_80 (i := 1) rfl eV eV (fun hg => ⟨rfl, by show q < (ds.files.set q _).length; rw [List.length_set]; exact hq⟩)) (nl ?_)
          refine p1 16 ?_
          refine Y1 (Yv.fieldEp rfl fo_141_1 eV) (nl ?_)
          refine p1 17 ?_
          refine AWL.storeEp1 (i := 1) rfl rfl rfl ag_54 rfl (E rfl rfl) (E rfl rfl) rfl rfl (by rw [len_files]; show _ < (ds.files.set q _).length * 2; rw [List.length_set]; omega) (nl ?_)
          refine AWP.done (by kernel_rfl) ?_
          refine ⟨m + 1, A72, c72, ⟨by omega, by omega⟩, by omega, (su (su (su (su (su sn))))), ?_⟩
          rw [← padTo_succ hm1, ← dsw_grow hq]
          rfl
       ·
        refine AWL.buildSlice1 rfl rfl (B rfl) rfl el_54 rfl (evsC (E rfl rfl) evs0) nB rfl rfl (nl ?_)
        refine AWP.two (i := 3) (j := 12) (by kernel_rfl) rfl rfl ?_ ?_
        ·
         refine yl ag_80 0 (nl ?_)
         refine p1 12 ?_
         refine Y1 (Yv.loadEp rfl ag_54 (i := 1) rfl eV (fun hg => fby_set hq)) (nl ?_)
         refine p1 14 ?_
         refine AWL.appendRow (i := q + 4) rfl rfl (B rfl) rfl el_54 (B rfl) (dsw_row hq) (E rfl rfl) (SrcT.sl so_54 (B rfl) (E rfl rfl) rfl) (by rw [hpm]; unfold maxLen; omega) (by rw [hpm]; omega) (fun A72 c72 => ?_)
         refine nl ?_
         refine p1 15 ?_
         refine Y1 (Yv.indexRow (j := q) rfl ss_80 (i := 1) rfl eV eV (fun hg => ⟨rfl, by show q < (ds.files.set q _).length; rw [List.length_set]; exact hq⟩)) (nl ?_)
         refine p1 16 ?_
         refine Y1 (Yv.fieldEp rfl fo_141_1 eV) (nl ?_)
         refine p1 17 ?_
         refine AWL.storeEp1 (i := 1) rfl rfl rfl ag_54 rfl (E rfl rfl) (E rfl rfl) rfl rfl (by rw [len_files]; show _ < (ds.files.set q _).length * 2; rw [List.length_set]; omega) (nl ?_)
         refine AWP.done (by kernel_rfl) ?_
         refine ⟨m + 1, A72, c72, ⟨by omega, by omega⟩, by omega, (su (su (su (su (su sn))))), ?_⟩
         rw [← padTo_succ hm1, ← dsw_grow hq]
         rfl
        ·
         refine Y1 (Yv.loadEp rfl ag_54 (i := 1) rfl eV (fun hg => fby_set hq)) (nl ?_)
         refine AWP.two (i := 3) (j := 14) (by kernel_rfl) rfl rfl ?_ ?_
         ·
          refine yl ag_80 0 (nl ?_)
          refine p1 14 ?_
          refine AWL.appendRow (i := q + 4) rfl rfl (B rfl) rfl el_54 (B rfl) (dsw_row hq) (E rfl rfl) (SrcT.sl so_54 (B rfl) (E rfl rfl) rfl) (by rw [hpm]; unfold maxLen; omega) (by rw [hpm]; omega) (fun A72 c72 => ?_)
          refine nl ?_
          refine p1 15 ?_
          refine Y1 (Yv.indexRow (j := q) rfl ss_80 (i := 1) rfl eV eV (fun hg => ⟨rfl, by show q < (ds.files.set q _).length; rw [List.length_set]; exact hq⟩)) (nl ?_)
          refine p1 16 ?_
          refine Y1 (Yv.fieldEp rfl fo_141_1 eV) (nl ?_)
          refine p1 17 ?_
          refine AWL.storeEp1 (i := 1) rfl rfl rfl ag_54 rfl (E rfl rfl) (E rfl rfl) rfl rfl (by rw [len_files]; show _ < (ds.files.set q _).length * 2; rw [List.length_set]; omega) (nl ?_)
          refine AWP.done (by kernel_rfl) ?_
          refine ⟨m + 1, A72, c72, ⟨by omega, by omega⟩, by omega, (su (su (su (su (su sn))))), ?_⟩
          rw [← padTo_succ hm1, ← dsw_grow hq]
          rfl
         ·
          refine AWL.appendRow (i := q + 4) rfl rfl (B rfl) rfl el_54 (B rfl) (dsw_row hq) (E rfl rfl) (SrcT.sl so_54 (B rfl) (E rfl rfl) rfl) (by rw [hpm]; unfold maxLen; omega) (by rw [hpm]; omega) (fun A72 c72 => ?_)
          refine nl ?_
          refine p1 3 ?_
          refine yl ag_80 0 (nl ?_)
          refine p1 15 ?_
          refine Y1 (Yv.indexRow (j := q) rfl ss_80 (i := 1) rfl eV eV (fun hg => ⟨rfl, by show q < (ds.files.set q _).length; rw [List.length_set]; exact hq⟩)) (nl ?_)
          refine p1 16 ?_
          refine Y1 (Yv.fieldEp rfl fo_141_1 eV) (nl ?_)
          refine p1 17 ?_
          refine AWL.storeEp1 (i := 1) rfl rfl rfl ag_54 rfl (E rfl rfl) (E rfl rfl) rfl rfl (by rw [len_files]; show _ < (ds.files.set q _).length * 2; rw [List.length_set]; omega) (nl ?_)
          refine AWP.done (by kernel_rfl) ?_
          refine ⟨m + 1, A72, c72, ⟨by omega, by omega⟩, by omega, (su (su (su (su (su sn))))), ?_⟩
          rw [← padTo_succ hm1, ← dsw_grow hq]
          rfl
      ·
       refine AWL.buildSlice1 rfl rfl (B rfl) rfl el_54 rfl (evsC (E rfl rfl) evs0) nB rfl rfl (nl ?_)
       refine AWP.two (i := 3) (j := 8) (by kernel_rfl) rfl rfl ?_ ?_
       ·
        refine yl ag_80 0 (nl ?_)
        refine p1 8 ?_
        refine yl ag_80 0 (nl ?_)
        refine p1 10 ?_
        refine Y1 (Yv.indexRow (j := q) rfl ss_80 (i := 1) rfl eV eV (fun hg => ⟨rfl, by show q < (ds.files.set q _).length; rw [List.length_set]; exact hq⟩)) (nl ?_)
        refine p1 11 ?_
        refine Y1 (Yv.fieldEp rfl fo_141_1 eV) (nl ?_)
        refine p1 12 ?_
        refine Y1 (Yv.loadEp rfl ag_54 (i := 1) rfl eV (fun hg => fby_set hq)) (nl ?_)
        refine p1 14 ?_
        refine AWL.appendRow (i := q + 4) rfl rfl (B rfl) rfl el_54 (B rfl) (dsw_row hq) (E rfl rfl) (SrcT.sl so_54 (B rfl) (E rfl rfl) rfl) (by rw [hpm]; unfold maxLen; omega) (by rw [hpm]; omega) (fun A72 c72 => ?_)
        refine nl ?_
        refine p1 15 ?_
        refine Y1 (Yv.indexRow (j := q) rfl ss_80 (i := 1) rfl eV eV (fun hg => ⟨rfl, by show q < (ds.files.set q _).length; rw [List.length_set]; exact hq⟩)) (nl ?_)
        refine p1 16 ?_
        refine Y1 (Yv.fieldEp rfl fo_141_1 eV) (nl ?_)
        refine p1 17 ?_
        refine AWL.storeEp1 (i := 1) rfl rfl rfl ag_54 rfl (E rfl rfl) (E rfl rfl) rfl rfl (by rw [len_files]; show _ < (ds.files.set q _).length * 2; rw [List.length_set]; omega) (nl ?_)
        refine AWP.done (by kernel_rfl) ?_
        refine ⟨m + 1, A72, c72, ⟨by omega, by omega⟩, by omega, (su (su (su (su (su sn))))), ?_⟩
        rw [← padTo_succ hm1, ← dsw_grow hq]
        rfl
       ·
        refine yl ag_80 0 (nl ?_)
        refine T1 (i := 10) rfl (freeIdxRow (i := 1) rfl ss_80 rfl (E rfl rfl) (E rfl rfl) ⟨rfl, by show q < (ds.files.set q _).length; rw [List.length_set]; exact hq⟩) ?_
        refine T1 (i := 11) rfl (freeFieldEp rfl fo_141_1 (E rfl rfl)) ?_
        refine AWP.two (i := 3) (j := 12) (by kernel_rfl) rfl rfl ?_ ?_
        ·
         refine yl ag_80 0 (nl ?_)
         refine p1 12 ?_
         refine Y1 (Yv.loadEp rfl ag_54 (i := 1) rfl eV (fun hg => fby_set hq)) (nl ?_)
         refine p1 14 ?_
         refine AWL.appendRow (i := q + 4) rfl rfl (B rfl) rfl el_54 (B rfl) (dsw_row hq) (E rfl rfl) (SrcT.sl so_54 (B rfl) (E rfl rfl) rfl) (by rw [hpm]; unfold maxLen; omega) (by rw [hpm]; omega) (fun A72 c72 => ?_)
         refine nl ?_
         refine p1 15 ?_
         refine Y1 (Yv.indexRow (j := q) rfl ss_80 (i := 1) rfl eV eV (fun hg => ⟨rfl, by show q < (ds.files.set q _).length; rw [List.length_set]; exact hq⟩)) (nl ?_)
         refine p1 16 ?_
         refine Y1 (Yv.fieldEp rfl fo_141_1 eV) (nl ?_)
         refine p1 17 ?_
         refine AWL.storeEp1 (i := 1) rfl rfl rfl ag_54 rfl (E rfl rfl) (E rfl rfl) rfl rfl (by rw [len_files]; show _ < (ds.files.set q _).length * 2; rw [List.length_set]; omega) (nl ?_)
         refine AWP.done (by kernel_rfl) ?_
         refine ⟨m + 1, A72, c72, ⟨by omega, by omega⟩, by omega, (su (su (su (su (su sn))))), ?_⟩
         rw [← padTo_succ hm1, ← dsw_grow hq]
         rfl
        ·
         refine Y1 (Yv.loadEp rfl ag_54 (i := 1) rfl eV (fun hg => fby_set hq)) (nl ?_)
         refine AWP.two (i := 3) (j := 14) (by kernel_rfl) rfl rfl ?_ ?_
         ·
          refine yl ag_80 0 (nl ?_)
          refine p1 14 ?_
          refine AWL.appendRow (i := q + 4) rfl rfl (B rfl) rfl el_54 (B rfl) (dsw_row hq) (E rfl rfl) (SrcT.sl so_54 (B rfl) (E rfl rfl) rfl) (by rw [hpm]; unfold maxLen; omega) (by rw [hpm]; omega) (fun A72 c72 => ?_)
          refine nl ?_
          refine p1 15 ?_
          refine Y1 (Yv.indexRow (j := q) rfl ss_80 (i := 1) rfl eV eV (fun hg => ⟨rfl, by show q < (ds.files.set q _).length; rw [List.length_set]; exact hq⟩)) (nl ?_)
          refine p1 16 ?_
          refine Y1 (Yv.fieldEp rfl fo_141_1 eV) (nl ?_)
          refine p1 17 ?_
          refine AWL.storeEp1 (i := 1) rfl rfl rfl ag_54 rfl (E rfl rfl) (E rfl rfl) rfl rfl (by rw [len_files]; show _ < (ds.files.set q _).length * 2; rw [List.length_set]; omega) (nl ?_)
          refine AWP.done (by kernel_rfl) ?_
          refine ⟨m + 1, A72, c72, ⟨by omega, by omega⟩, by omega, (su (su (su (su (su sn))))), ?_⟩
          rw [← padTo_succ hm1, ← dsw_grow hq]
          rfl
         ·
          refine AWL.appendRow (i := q + 4) rfl rfl (B rfl) rfl el_54 (B rfl) (dsw_row hq) (E rfl rfl) (SrcT.sl so_54 (B rfl) (E rfl rfl) rfl) (by rw [hpm]; unfold maxLen; omega) (by rw [hpm]; omega) (fun A72 c72 => ?_)
          refine nl ?_
          refine p1 3 ?_
          refine yl ag_80 0 (nl ?_)
          refine p1 15 ?_
          refine Y1 (Yv.indexRow (j := q) rfl ss_80 (i := 1) rfl eV eV (fun hg => ⟨rfl, by show q < (ds.files.set q _).length; rw [List.length_set]; exact hq⟩)) (nl ?_)
          refine p1 16 ?_
          refine Y1 (Yv.fieldEp rfl fo_141_1 eV) (nl ?_)
          refine p1 17 ?_
          refine AWL.storeEp1 (i := 1) rfl rfl rfl ag_54 rfl (E rfl rfl) (E rfl rfl) rfl rfl (by rw [len_files]; show _ < (ds.files.set q _).length * 2; rw [List.length_set]; omega) (nl ?_)
          refine AWP.done (by kernel_rfl) ?_
          refine ⟨m + 1, A72, c72, ⟨by omega, by omega⟩, by omega, (su (su (su (su (su sn))))), ?_⟩
          rw [← padTo_succ hm1, ← dsw_grow hq]
          rfl
     try replace h4f := odf h4f
     have hlt : (ds.opn.getD j default).place + k < m := by
      have h : ¬ ((padTo (wr (ds.files.getD q default).bytes (ds.opn.getD j default).place (s.take k)) m).length : Int) ≤ (((ds.opn.getD j default).place + k : Nat) : Int) := h4f
      omega
     refine AW.exit ?_
     rw [padTo_out hm1 hm2 hlt]
     have hpl1 : (ds.opn.getD j default).place + k < (padTo (wr (ds.files.getD q default).bytes (ds.opn.getD j default).place (s.take k)) ((ds.opn.getD j default).place + k + 1)).length := by rw [padTo_len]; omega
     refine AW.rseqP rfl ?_
     refine AWP.phase [true, true, true, true, true, true, true, true, true, true, true, true, true, true, true, true, true, true, true, true] 1 rfl (by kernel_rfl) (by kernel_rfl) ?_
     refine qm ?_
     refine Q1 (Yv.nilChk rfl eV) ?_
     refine qf fo_84_0 ?_
     refine ql ag_80 0 ?_
     refine qm ?_
     refine Q1 (Yv.indexRow (j := q) rfl ss_80 (i := 1) rfl eV eV (fun hg => ⟨rfl, by show q < (ds.files.set q _).length; rw [List.length_set]; exact hq⟩)) ?_
     refine Q1 (Yv.fieldEp rfl fo_141_1 eV) ?_
     refine Q1 (Yv.loadEp rfl ag_54 (i := 1) rfl eV (fun hg => fby_set hq)) ?_
     refine qm ?_
     refine Q1 (Yv.nilChk rfl eV) ?_
     refine qf fo_84_2 ?_
     refine ql ag_81 0 ?_
     refine qm ?_
     refine Q1 (Yv.indexRow (j := j) rfl ss_81 (i := 2) rfl eV eV (fun hg => ⟨rfl, by show j < (ds.opn.set j _).length; rw [List.length_set]; exact hjl⟩)) ?_
     refine Q1 (Yv.fieldEp rfl fo_110_2 eV) ?_
     refine Q1 (Yv.loadEp rfl ag_3 (i := 2) rfl eV (fun hg => dpl_set hjl)) ?_
     refine qm ?_
     refine qm ?_
     refine Q1 (Yv.indexL rfl st_9 eV eV (fun hg => ⟨rfl, by omega⟩)) ?_
     refine Q1 (Yv.indexRow (i := q + 4) (j := (ds.opn.getD j default).place + k) rfl ss_54 (dsw_row (b := b) hq) eV eV (fun hg => ⟨rfl, hpl1⟩)) ?_
     refine AWQ.nil ?_
     refine p1 20 ?_
     refine AWL.storeEp1 (i := q + 4) rfl rfl rfl ag_5 (dsw_row (b := b) hq) (E rfl rfl) (E rfl rfl) rfl rfl (by rw [List.length_map, Nat.mul_one]; exact hpl1) (nl ?_)
     refine AWP.done (by kernel_rfl) ?_
     refine AW.eqS (S' := (DSt b (dsW ds j q (wr (ds.files.getD q default).bytes (ds.opn.getD j default).place (s.take (k + 1))) A1 c1 ((ds.opn.getD j default).place + k)))) ?_ ?_
     ·have htl := take_cl (s := s) (k := k) (by omega)
      have e := wr_step (ds.files.getD q default).bytes (ds.opn.getD j default).place (s.take k) (s.getD k 0)
      rw [htl] at e
      rw [take_c (by omega), ← e, ← dsw_byte _ hq hpl1]
     have hap : (atP (ds.opn.getD j default) ((ds.opn.getD j default).place + k)).place = (ds.opn.getD j default).place + k := rfl
     refine AW.region ?_
     refine ym ?_
     refine Y1 (Yv.nilChk rfl eV) ?_
     refine yf fo_84_2 ?_
     refine yl ag_81 0 ?_
     refine ym ?_
     refine Y1 (Yv.indexRow (j := j) rfl ss_81 (i := 2) rfl eV eV (fun hg => ⟨rfl, by show j < (ds.opn.set j _).length; rw [List.length_set]; exact hjl⟩)) ?_
     refine Y1 (Yv.fieldEp rfl fo_110_2 eV) ?_
     refine Y1 (Yv.loadEp rfl ag_3 (i := 2) rfl eV (fun hg => dpl_set hjl)) ?_
     refine Y1 (Yv.addN_i64 rfl eV eV (fun hg => by omega)) ?_
     refine Y1 (Yv.indexRow (j := j) rfl ss_81 (i := 2) rfl eV eV (fun hg => ⟨rfl, by show j < (ds.opn.set j _).length; rw [List.length_set]; exact hjl⟩)) ?_
     refine Y1 (Yv.fieldEp rfl fo_110_2 eV) ?_
     refine AWL.storeEp1 (i := 2) rfl rfl rfl ag_3 rfl (E rfl rfl) (E rfl rfl) rfl rfl (by rw [len_desc]; show _ < (ds.opn.set j _).length * 3; rw [List.length_set]; omega) (nl ?_)
     refine AW.eqS (S' := (DSt b (dsW ds j q (wr (ds.files.getD q default).bytes (ds.opn.getD j default).place (s.take (k + 1))) A1 c1 ((ds.opn.getD j default).place + k + 1)))) ?_ ?_
     ·rw [← dsw_place hjl]
      rfl
     refine AW.region ?_
     refine ym ?_
     refine Y1 (Yv.addN_i64 rfl eV eV (fun hg => by omega)) ?_
     refine ya ?_
     refine ⟨k + 1, A1, c1, by omega, by omega, (su (su (su (su (Sub.cons rfl (by simp) Sub.nil))))), rfl⟩
   try replace h3f := odf h3f
   refine AW.exit ?_
   obtain rfl : k = s.length := by omega
   rw [List.take_length]
   have hpbw : PB (n + s.length) (pl (dsW ds j q (wr (ds.files.getD q default).bytes (ds.opn.getD j default).place s) A c ((ds.opn.getD j default).place + s.length))) := pb_wrote hw1 (by omega) (by have := wr_le (l := (ds.files.getD q default).bytes) (p := (ds.opn.getD j default).place) (s := s); omega) (by omega)
   refine AW.region ?_
   refine ym ?_
   refine ym ?_
   refine Y1 (Yv.nilChk rfl eV) ?_
   refine yf fo_84_2 ?_
   refine yl ag_81 0 ?_
   refine ym ?_
   refine Y1 (Yv.indexRow (j := j) rfl ss_81 (i := 2) rfl eV eV (fun hg => ⟨rfl, by show j < (ds.opn.set j _).length; rw [List.length_set]; exact hjl⟩)) ?_
   refine Y1 (Yv.fieldEp rfl fo_110_1 eV) ?_
   refine Y1 (Yv.loadEp rfl ag_9 (i := 2) rfl eV (fun hg => dnm_set hjl)) ?_
   refine ym ?_
   refine cA ce_138 rfl rfl rfl (say57 b (dsW ds j q (wr (ds.files.getD q default).bytes (ds.opn.getD j default).place s) A c ((ds.opn.getD j default).place + s.length)) (n + s.length) hpbw (by omega) 3 (ds.opn.getD j default).name s (by omega)) ?_
   rintro t116 S116 ⟨rfl, A116, c116, rfl⟩
   refine nl ?_
   refine rs (ym ?_)
   refine Y1 (Yv.lenL rfl st_9 eV) ?_
   refine ya ?_
   refine AW.ret (retI (.tmp rfl .nil) ?_)
   exact ⟨by unfold writeV; rw [if_pos (.inr (.inr hk5))]; rfl, { dsW ds j q (wr (ds.files.getD q default).bytes (ds.opn.getD j default).place s) A c ((ds.opn.getD j default).place + s.length) with trace := sayF 3 (ds.opn.getD j default).name s ds.trace, tA := A116, tc := c116 }, write_file hjl hk5 hq hqn hqg hqp, rfl⟩
 try replace h2f := odf h2f
 refine ra ?_
 refine AW.ret (retI (.tmp rfl .nil) ?_)
 refine ⟨by unfold writeV; rw [if_neg (fun q => q.elim h0f (fun q => q.elim h1f h2f))]; rfl, ds, ?_, rfl⟩
 unfold writeP
 rw [if_neg h0f, if_neg h1f, if_neg h2f]

end Go.Proofs.YtpgbpdnmjeoeoaaGreat.V

namespace Go.Proofs.YtpgbpdnmjeoeoaaGreat.V
open Go Go.RowKit
def wfP (name : Nm) (s : List UInt8) (p : PW) : PW := if openV name 577 p < 0 then p else closeP (openV name 577 p) (writeP (openV name 577 p) s (openP name 577 p))
def DWr (name : Nm) (s : List UInt8) (p p' : PW) : Prop := ∃ p1, DOpen name 577 p p1 ∧ p' = if openV name 577 p < 0 then p1 else closeP (openV name 577 p) (writeP (openV name 577 p) s p1)
theorem PB.mono {n m : Nat} {p : PW} (h : PB n p) (hm : n ≤ m) : PB m p := ⟨h.opn, Nat.le_trans h.tr hm, fun e he => Nat.le_trans (h.txt e he) hm, fun f hf => Nat.le_trans (h.fl f hf) hm, fun d hd => Nat.le_trans (h.pl d hd) hm, Nat.le_trans h.sin hm, Nat.le_trans h.nf hm⟩
theorem PB.close {n : Nat} {p : PW} (h : PB n p) (fd : Int) : PB n (closeP fd p) := by
 unfold closeP
 split
 ·exact h
 exact h.opn_set (Nat.zero_le n)
theorem PB.open0 {n : Nat} {p : PW} (h : PB n p) (name : Nm) (flags : Int) (hf : ¬ flags = 577) : PB n (openP name flags p) := by
 unfold openP
 split
 ·exact h
 exact h.opn_set (Nat.zero_le n)
theorem putP_fl {name : Nm} {b : List UInt8} {n : Nat} {l : Fl} (h : ∀ f ∈ l, f.2.length ≤ n) (hb : b.length ≤ n) : ∀ f ∈ putP name b l, f.2.length ≤ n := by
 intro f hf
 induction l with
 | nil => rw [putP] at hf; rw [List.mem_singleton.1 hf]; exact hb
 | cons x r ih =>
  rw [putP] at hf
  split at hf
  ·rcases List.mem_cons.1 hf with rfl | hf
   ·exact hb
   ·exact h f (List.mem_cons_of_mem _ hf)
  ·rcases List.mem_cons.1 hf with rfl | hf
   ·exact h _ (List.mem_cons_self ..)
   ·exact ih (fun g hg => h g (List.mem_cons_of_mem _ hg)) hf
theorem putP_ln {name : Nm} {b : List UInt8} : ∀ {l : Fl}, (putP name b l).length ≤ l.length + 1
 | [] => by simp [putP]
 | x :: r => by
  rw [putP]
  split
  ·simp
  ·have := putP_ln (name := name) (b := b) (l := r)
   simp only [List.length_cons]
   omega
theorem PB.opened {n : Nat} {p : PW} (h : PB n p) (name : Nm) : PB (n + 1) (openP name 577 p) := by
 unfold openP
 split
 ·exact h.mono (by omega)
 rw [if_pos rfl]
 refine ⟨?_, ?_, fun e he => ?_, putP_fl (fun f hf => Nat.le_trans (h.fl f hf) (by omega)) (Nat.zero_le _), fun d hd => ?_, Nat.le_trans h.sin (by omega), ?_⟩
 ·show (p.opn.set _ _).length = 19
  rw [List.length_set]
  exact h.opn
 ·show (p.trace ++ [_]).length ≤ n + 1
  rw [List.length_append]
  have := h.tr
  simp only [List.length_cons, List.length_nil]
  omega
 ·rcases List.mem_append.1 he with he | he
  ·have := h.txt e he; omega
  rw [List.mem_singleton.1 he]; exact Nat.zero_le _
 ·rcases List.mem_or_eq_of_mem_set hd with hd | rfl
  ·have := h.pl d hd; omega
  exact Nat.zero_le _
 have := putP_ln (name := name) (b := []) (l := p.files)
 have := h.nf
 show (putP name [] p.files).length ≤ n + 1
 omega
theorem PB.read {n : Nat} {p : PW} (h : PB n p) (fd N : Int) : PB n (readP fd N p) := by
 unfold readP
 split
 ·exact ⟨h.opn, h.tr, h.txt, h.fl, h.pl, by simp only [List.length_drop]; have := h.sin; omega, h.nf⟩
 split
 ·rename_i hk
  by_cases hin : fd < 0 ∨ 19 ≤ fd
  ·unfold kindP at hk
   rw [if_pos hin] at hk
   exact absurd hk (by decide)
  have hjl : fd.toNat < p.opn.length := by have := h.opn; omega
  have hpj := h.pl (p.opn.getD fd.toNat default) (getD_mem' hjl)
  -- what is read lies in the file
  have hle : (((getP (p.opn.getD fd.toNat default).name p.files).getD []).drop (p.opn.getD fd.toNat default).place).length ≤ n - (p.opn.getD fd.toNat default).place := by
   rw [List.length_drop]
   cases e : getP (p.opn.getD fd.toNat default).name p.files with
   | none => simp
   | some b =>
    have := h.fl _ (getP_mem e)
    simp only [Option.getD_some]
    simp only at this
    omega
  refine h.opn_set ?_
  show (p.opn.getD fd.toNat default).place + _ ≤ n
  rw [List.length_take]
  omega
 exact h
theorem sayF_pb {n : Nat} {k : Int} {name text : List UInt8} {l : List Evt} (h1 : l.length ≤ n) (h2 : ∀ e ∈ l, e.text.length ≤ n) : (sayF k name text l).length ≤ n + 1 + text.length ∧ ∀ e ∈ sayF k name text l, e.text.length ≤ n + 1 + text.length := by
 unfold sayF
 split
 ·exact ⟨by omega, fun e he => by have := h2 e he; omega⟩
 split
 ·rename_i hc
  refine ⟨by rw [List.length_set]; omega, fun e he => ?_⟩
  rcases List.mem_or_eq_of_mem_set he with he | rfl
  ·have := h2 e he; omega
  have := h2 _ (last_mem hc.1)
  simp only [List.length_append]; omega
 refine ⟨by simp; omega, fun e he => ?_⟩
 rcases List.mem_append.1 he with he | he
 ·have := h2 e he; omega
 rcases List.mem_singleton.1 he with rfl
 simp only; omega
theorem PB.write {n : Nat} {p : PW} (h : PB n p) (fd : Int) (s : List UInt8) : PB (n + 1 + s.length) (writeP fd s p) := by
 unfold writeP
 split
 ·have := sayF_pb (k := 1) (name := []) (text := s) h.tr h.txt
  exact ⟨h.opn, this.1, this.2, fun f hf => by have := h.fl f hf; omega, fun d hd => by have := h.pl d hd; omega, by have := h.sin; show p.stdin.length ≤ _; omega, by have := h.nf; show p.files.length ≤ _; omega⟩
 split
 ·have := sayF_pb (k := 2) (name := []) (text := s) h.tr h.txt
  exact ⟨h.opn, this.1, this.2, fun f hf => by have := h.fl f hf; omega, fun d hd => by have := h.pl d hd; omega, by have := h.sin; show p.stdin.length ≤ _; omega, by have := h.nf; show p.files.length ≤ _; omega⟩
 split
 ·rename_i hk
  split
  ·exact h.mono (by omega)
  by_cases hin : fd < 0 ∨ 19 ≤ fd
  ·unfold kindP at hk
   rw [if_pos hin] at hk
   exact absurd hk (by decide)
  have hjl : fd.toNat < p.opn.length := by have := h.opn; omega
  have hpj := h.pl (p.opn.getD fd.toNat default) (getD_mem' hjl)
  have ht := sayF_pb (k := 3) (name := (p.opn.getD fd.toNat default).name) (text := s) h.tr h.txt
  have hwl := writeAt_len ((getP (p.opn.getD fd.toNat default).name p.files).getD []) (p.opn.getD fd.toNat default).place s
  have hg : ((getP (p.opn.getD fd.toNat default).name p.files).getD []).length ≤ n := by
   cases e : getP (p.opn.getD fd.toNat default).name p.files with
   | none => exact Nat.zero_le _
   | some b => exact h.fl _ (getP_mem e)
  refine ⟨by show (p.opn.set _ _).length = 19; rw [List.length_set]; exact h.opn, ht.1, ht.2, putP_fl (fun f hf => by have := h.fl f hf; omega) (by rw [hwl]; omega), fun d hd => ?_, by have := h.sin; show p.stdin.length ≤ _; omega, ?_⟩
  ·rcases List.mem_or_eq_of_mem_set hd with hd | rfl
   ·have := h.pl d hd; omega
   show _ + s.length ≤ _; omega
  have := putP_ln (name := (p.opn.getD fd.toNat default).name) (b := writeAt ((getP (p.opn.getD fd.toNat default).name p.files).getD []) (p.opn.getD fd.toNat default).place s) (l := p.files)
  have := h.nf
  show (putP _ _ p.files).length ≤ _
  omega
 exact h.mono (by omega)
theorem Side.wf {r d d' : PW} {name : Nm} {s : List UInt8} (h : Side r d) (hn : Named r) (hw : DWr name s d d') : Side (wfP name s r) d' := by
 obtain ⟨d1, h1, rfl⟩ := hw
 have hs := h.openD h1
 unfold wfP
 rw [h.openV]
 by_cases hv : Go.Proofs.YtpgbpdnmjeoeoaaGreat.V.openV name 577 r < 0
 ·rw [if_pos hv, if_pos hv]
  unfold openP at hs
  rw [if_pos hv] at hs
  exact hs
 rw [if_neg hv, if_neg hv]
 exact (hs.write (named_open hn name 577) _ s).close _
theorem named_wf {p : PW} (h : Named p) (name : Nm) (s : List UInt8) : Named (wfP name s p) := by
 unfold wfP
 split
 ·exact h
 exact named_close (named_write (named_open h name 577) _ s) _
theorem PB.wf {n : Nat} {p : PW} (h : PB n p) (name : Nm) (s : List UInt8) : PB (n + 2 + s.length) (wfP name s p) := by
 unfold wfP
 split
 ·exact h.mono (by omega)
 exact (((h.opened name).write _ s).close _).mono (by omega)
end Go.Proofs.YtpgbpdnmjeoeoaaGreat.V

namespace Go.Proofs.YtpgbpdnmjeoeoaaGreat.V
open Go Go.RowKit
theorem fcn_at {l : List (List UInt8 × List UInt8)} {j : Nat} (h : j < l.length) : (l.flatMap fCells)[j * 2 + 0]? = some (sv (l.getD j default).1) := flat_at fk h 0 (by decide)
theorem fct_at {l : List (List UInt8 × List UInt8)} {j : Nat} (h : j < l.length) : (l.flatMap fCells)[j * 2 + 1]? = some (sv (l.getD j default).2) := flat_at fk h 1 (by decide)
theorem fits_eq (s : List UInt8) : fitsB s = ((decide (1 ≤ (s.length : Int)) && decide ((s.length : Int) ≤ 255)) && !badN s) := by
 unfold fitsB
 have h1 : (!decide (s = [])) = decide (1 ≤ (s.length : Int)) := by
  cases s with
  | nil => rfl
  | cons a r =>
   have : (1 : Int) ≤ ((a :: r).length : Int) := by simp only [List.length_cons]; omega
   rw [decide_eq_true this]
   simp
 have h2 : decide (Lib.indexByte s 0 < 0) = !badN s := by
  have h := idx_bad s
  cases hb : badN s
  ·rw [hb] at h
   have : Lib.indexByte s 0 < 0 := by
    rcases Int.lt_or_le (Lib.indexByte s 0) 0 with q | q
    ·exact q
    ·exact absurd (h.1 q) (by decide)
   rw [decide_eq_true this]; rfl
  ·rw [hb] at h
   have : ¬ Lib.indexByte s 0 < 0 := by have := h.2 rfl; omega
   rw [decide_eq_false this]; rfl
 rw [h1, h2]
structure NI (p fs : Fl) : Prop where
 srt : Srt fs
 perm : p.Perm fs
theorem NI.nil : NI (nF []) [] := ⟨List.Pairwise.nil, List.Perm.refl _⟩
theorem any_none {name : Nm} {l : Fl} : (l.any fun y => decide (y.1 = name)) = (getP name l).isSome := by
 induction l with
 | nil => rfl
 | cons x r ih =>
  rw [List.any_cons, getP, ih]
  by_cases h : x.1 = name <;> simp [h]
theorem perm_isSome {name : Nm} {l l' : Fl} (h : l.Perm l') : (getP name l).isSome = (getP name l').isSome := by
 rw [← any_none, ← any_none]
 apply Bool.eq_iff_iff.2
 rw [List.any_eq_true, List.any_eq_true]
 exact ⟨fun ⟨x, hx, q⟩ => ⟨x, h.subset hx, q⟩, fun ⟨x, hx, q⟩ => ⟨x, h.symm.subset hx, q⟩⟩
theorem NI.add {l : Fl} {j : Nat} {fs fs' : Fl} (h : NI (nF (l.take j)) fs) (hj : j < l.length) (hf : fitsB (l.getD j default).1 = true) (hg : getP (l.getD j default).1 fs = none) (hl : Laid (l.getD j default) fs fs') : NI (nF (l.take (j + 1))) fs' := by
 have h1 := laid_srt h.srt hg hl
 refine ⟨h1.1, ?_⟩
 have hn : ((nF (l.take j)).any fun y => decide (y.1 = (l.getD j default).1)) = false := by
  rw [any_none, perm_isSome h.perm, hg]
  rfl
 rw [nF_succ hj, stepN, hn, hf]
 refine List.Perm.trans ?_ h1.2
 rw [putP_new hg]
 exact h.perm.append_right _
theorem NI.skip {l : Fl} {j : Nat} {fs : Fl} (h : NI (nF (l.take j)) fs) (hj : j < l.length) (hf : fitsB (l.getD j default).1 = false ∨ ¬ getP (l.getD j default).1 fs = none) : NI (nF (l.take (j + 1))) fs := by
 refine ⟨h.srt, ?_⟩
 rw [nF_succ hj, stepN, if_neg ?_]
 ·exact h.perm
 rw [Bool.and_eq_true, Bool.not_eq_true', any_none, perm_isSome h.perm]
 rintro ⟨a, b⟩
 rcases hf with q | q
 ·rw [b] at q; cases q
 cases e : getP (l.getD j default).1 fs with
 | none => exact q e
 | some x => rw [e] at a; cases a
def ds0 (fs : List FileR) (lA : Option Addr) (lc : Nat) (stdin : List UInt8) : DS := ⟨fs, lA, lc, stdin, [], none, 0, [], none, 0⟩
theorem new_perm (b : Nat) (fs : List FileR) (lA : Option Addr) (lc : Nat) (stdin : List UInt8) {A : Option Addr} : (DSt b { ds0 fs lA lc stdin with opn := opnZ, dA := A, dc := 19 }).Perm
    (.box b 84 [.v (.slice lA fs.length lc), sv stdin, .v (.slice A 19 19), .v (.slice none 0 0)] :: .row lA fs.length lc 141 2 (fs.flatMap fileCells) :: .row none 0 0 86 3 [] :: (fs.map fileRow ++ [.row A 19 19 110 3 (opnZ.flatMap descCells)])) := by
 refine List.Perm.cons _ (List.Perm.cons _ ?_)
 refine List.Perm.trans (List.Perm.swap _ _ _) (List.Perm.cons _ ?_)
 exact (List.perm_append_singleton _ _).symm
theorem ni_len {p fs : Fl} (h : NI p fs) : fs.length = p.length := h.perm.length_eq.symm
theorem nF_len (l : Fl) (j : Nat) (hj : j ≤ l.length) : (nF (l.take j)).length ≤ j := by
 induction j with
 | zero => simp [nF]
 | succ j ih =>
  have h1 := ih (by omega)
  rw [nF_succ (by omega), stepN]
  split
  ·rw [List.length_append]
   simp only [List.length_cons, List.length_nil]
   omega
  ·omega
end Go.Proofs.YtpgbpdnmjeoeoaaGreat.V

namespace Go.Proofs.YtpgbpdnmjeoeoaaGreat.V
open Go Go.RowKit

set_option maxHeartbeats 2000000 in
theorem DNew21 (stdin : List UInt8) (files : List (List UInt8 × List UInt8)) (hl : files.length ≤ 549755813888) (hn : ∀ x ∈ files, x.1.length ≤ 1099511627776) (hd : ∀ x ∈ files, x.2.length ≤ 1099511627776) :
    ACalls Tryz.prog 21 [worldT stdin files] [] (fun t S => ∃ b ds, t = wp b ∧ S = DSt b ds ∧ ds.stdin = stdin ∧ ds.opn = opn0 ∧ ds.trace = [] ∧ NI (nF files) (ds.files.map nb)) := by
 refine ACalls.intro Tryz.func21 rfl Tryz.ntmps21 nB rfl fun X w0 => ?_
 refine rs ?_
 refine AWL.boxOp rfl rfl (B rfl) rfl (E rfl rfl) rfl (fun b1 => ?_)
 refine ya ?_
 refine rs (yf fo_64_0 ?_)
 refine yl ag_9 0 ?_
 refine Y1 (Yv.buildS rfl sh_84 (evpC eV evp0) (fun _ => rfl)) ?_
 refine AWL.boxOp rfl rfl (B rfl) rfl (E rfl rfl) rfl (fun b10 => ?_)
 refine ya ?_
 refine AW.rowNil 141 2 ?_
 refine AW.rowNil 110 3 ?_
 refine AW.rowNil 86 3 ?_
 refine AW.eqS (S' := .box b1 64 [sv stdin, .sl 2 (files.flatMap fCells)] :: DSt b10 (ds0 [] none 0 stdin)) rfl ?_
 refine AW.seq ?_
 refine ra ?_
 refine AW.block ?_
 refine AW.loop4 (fun (j : Nat) (fs : List FileR) (lA : Option Addr) (lc : Nat) => [(1, true, pv b1), (3, true, wp b10), (4, true, .v (.int .i64 (j : Int)))]) (fun (j : Nat) (fs : List FileR) (lA : Option Addr) (lc : Nat) => (.box b1 64 [sv stdin, .sl 2 (files.flatMap fCells)] :: DSt b10 (ds0 fs lA lc stdin))) (fun (j : Nat) (fs : List FileR) (lA : Option Addr) (lc : Nat) => j ≤ files.length ∧ NI (nF (files.take j)) (fs.map nb)) (fun (j : Nat) (fs : List FileR) (lA : Option Addr) (lc : Nat) => files.length - j) 0 ([]) none 0 ?_ ?_ ?_ ?_
 ·exact ⟨Nat.zero_le _, NI.nil⟩
 ·exact (su (su (su sn)))
 ·rfl
 ·
  intro j fs lA lc hinv
  obtain ⟨hj, hni⟩ := hinv
  have hfl : fs.length ≤ files.length := by
   have h1 := ni_len hni
   rw [List.length_map] at h1
   have h2 := nF_len files j hj
   omega
  refine AW.seq ?_
  refine rs (ym ?_)
  refine yf fo_64_1 ?_
  refine yl ag_62 0 ?_
  refine Y1 (Yv.lenSl rfl so_62 (B rfl) eV len_fc) ?_
  refine Y1 (Yv.lss rfl eV eV) (nl ?_)
  refine AW.cond rfl (fun h0t => ?_) (fun h0f => ?_)
  ·
   try replace h0t := odt h0t
   have hjl : j < files.length := by omega
   have hnj : (files.getD j default).1.length ≤ 1099511627776 := hn _ (getD_mem' hjl)
   have hdj : (files.getD j default).2.length ≤ 1099511627776 := hd _ (getD_mem' hjl)
   refine AW.skip ?_
   refine AW.seq ?_
   refine AW.block ?_
   refine rs (yf fo_64_1 ?_)
   refine yl ag_62 0 ?_
   refine ym ?_
   refine Y1 (Yv.indexSl rfl ss_62 (B rfl) eV eV (fun hg => ⟨rfl, (by first | omega | (simp only [len_fc, len_ev]; omega))⟩)) ?_
   refine Y1 (Yv.fieldRp rfl fo_106_0 eV) ?_
   refine Y1 (Yv.loadRp rfl ag_9 eV (fun hg => fcn_at (by omega))) ?_
   refine AWL.callP rfl rfl (B rfl) rfl ce_41 (E rfl rfl) (evsC (E rfl rfl) evs0) (fits33 (files.getD j default).1 hnj) (fun t S h => h) ?_
   refine ya ?_
   refine rs (ym ?_)
   refine yf fo_64_1 ?_
   refine yl ag_62 0 ?_
   refine ym ?_
   refine Y1 (Yv.indexSl rfl ss_62 (B rfl) eV eV (fun hg => ⟨rfl, (by first | omega | (simp only [len_fc, len_ev]; omega))⟩)) ?_
   refine Y1 (Yv.fieldRp rfl fo_106_0 eV) ?_
   refine Y1 (Yv.loadRp rfl ag_9 eV (fun hg => fcn_at (by omega))) ?_
   refine cE ce_42 [.box b1 64 [sv stdin, .sl 2 (files.flatMap fCells)]] (DSt b10 (ds0 fs lA lc stdin)) rfl rfl rfl (find34F b10 (ds0 fs lA lc stdin) files.length hfl (by omega) (files.getD j default).1) ?_
   rintro t32 S32 ⟨rfl, rfl⟩
   refine ya ?_
   refine rs (ym ?_)
   refine ym ?_
   refine gT (Yv.move rfl eV) ?_
   refine gT (Yv.lss rfl (Eg rfl rfl id) eV) ?_
   refine Y1 (Yv.pickAnd rfl eV (Eg rfl rfl id)) (nl ?_)
   refine AW.cond rfl (fun h1t => ?_) (fun h1f => ?_)
   ·
    try replace h1t := odt h1t
    rw [Bool.and_eq_true, ← fits_eq] at h1t
    have hfits := h1t.1
    have hget : getP (files.getD j default).1 (fs.map nb) = none := by
     rcases findP_get (name := (files.getD j default).1) (l := fs.map nb) with ⟨_, h⟩ | ⟨q, h, _⟩
     ·exact h
     ·exfalso
      have h2 := odt h1t.2
      have h3 : findP (files.getD j default).1 (fs.map nb) < 0 := h2
      rw [h] at h3
      omega
    refine AW.regionP rfl ?_
    refine T1 (i := 0) rfl (freeMove rfl (E rfl rfl)) ?_
    refine T1 (i := 1) rfl (freeField rfl fo_64_1 (E rfl rfl)) ?_
    refine T1 (i := 3) rfl (freeMove rfl (E rfl rfl)) ?_
    refine T1 (i := 7) rfl (freeField rfl fo_64_1 (E rfl rfl)) ?_
    refine T1 (i := 9) rfl (freeMove rfl (E rfl rfl)) ?_
    refine AWP.two (i := 2) (j := 8) (by kernel_rfl) rfl rfl ?_ ?_
    ·
     refine yl ag_62 0 (nl ?_)
     refine T1 (i := 4) rfl (freeIdxSl rfl ss_62 (by decide) (E rfl rfl) (E rfl rfl) ⟨rfl, by rw [len_fc]; omega⟩) ?_
     refine T1 (i := 5) rfl (freeFieldRp rfl fo_106_0 (E rfl rfl)) ?_
     refine AWP.two (i := 6) (j := 8) (by kernel_rfl) rfl rfl ?_ ?_
     ·
      refine Y1 (Yv.loadRp rfl ag_9 eV (fun hg => fcn_at (by omega))) (nl ?_)
      refine p1 8 ?_
      refine yl ag_62 0 (nl ?_)
      refine p1 10 ?_
      refine Y1 (Yv.indexSl rfl ss_62 (B rfl) eV eV (fun hg => ⟨rfl, (by first | omega | (simp only [len_fc, len_ev]; omega))⟩)) (nl ?_)
      refine p1 11 ?_
      refine Y1 (Yv.fieldRp rfl fo_106_1 eV) (nl ?_)
      refine p1 12 ?_
      refine Y1 (Yv.loadRp rfl ag_9 eV (fun hg => fct_at (by omega))) (nl ?_)
      refine p1 13 ?_
      refine AWL.strBytesRow rfl rfl (B rfl) rfl st_9 so_54 kd_5 (E rfl rfl) (by exact Nat.le_trans hdj (by unfold maxLen; decide)) (fun A51 c51 => ?_)
      refine nl ?_
      refine p1 14 ?_
      refine cE ce_43 [.box b1 64 [sv stdin, .sl 2 (files.flatMap fCells)]] (DSt b10 (ds0 fs lA lc stdin) ++ [fileRow ⟨(files.getD j default).1, (files.getD j default).2, A51, c51⟩]) rfl rfl rfl (lay35F b10 (ds0 fs lA lc stdin) files.length hfl (by omega) ⟨(files.getD j default).1, (files.getD j default).2, A51, c51⟩ hdj) ?_
      rintro t52 S52 ⟨rfl, fs1, lA1, lc1, hl1, rfl⟩
      refine nl ?_
      refine AWP.done (by kernel_rfl) ?_
      refine AW.region ?_
      refine ym ?_
      refine Y1 (Yv.addN_i64 rfl eV eV (fun hg => by omega)) ?_
      refine ya ?_
      refine ⟨j + 1, fs1, lA1, lc1, ⟨by omega, hni.add hjl hfits hget hl1⟩, by omega, (su (su (Sub.cons rfl (by simp) Sub.nil))), rfl⟩
     ·
      refine yl ag_62 0 (nl ?_)
      refine T1 (i := 10) rfl (freeIdxSl rfl ss_62 (by decide) (E rfl rfl) (E rfl rfl) ⟨rfl, by rw [len_fc]; omega⟩) ?_
      refine T1 (i := 11) rfl (freeFieldRp rfl fo_106_1 (E rfl rfl)) ?_
      refine AWP.two (i := 6) (j := 12) (by kernel_rfl) rfl rfl ?_ ?_
      ·
       refine Y1 (Yv.loadRp rfl ag_9 eV (fun hg => fcn_at (by omega))) (nl ?_)
       refine p1 12 ?_
       refine Y1 (Yv.loadRp rfl ag_9 eV (fun hg => fct_at (by omega))) (nl ?_)
       refine p1 13 ?_
       refine AWL.strBytesRow rfl rfl (B rfl) rfl st_9 so_54 kd_5 (E rfl rfl) (by exact Nat.le_trans hdj (by unfold maxLen; decide)) (fun A51 c51 => ?_)
       refine nl ?_
       refine p1 14 ?_
       refine cE ce_43 [.box b1 64 [sv stdin, .sl 2 (files.flatMap fCells)]] (DSt b10 (ds0 fs lA lc stdin) ++ [fileRow ⟨(files.getD j default).1, (files.getD j default).2, A51, c51⟩]) rfl rfl rfl (lay35F b10 (ds0 fs lA lc stdin) files.length hfl (by omega) ⟨(files.getD j default).1, (files.getD j default).2, A51, c51⟩ hdj) ?_
       rintro t52 S52 ⟨rfl, fs1, lA1, lc1, hl1, rfl⟩
       refine nl ?_
       refine AWP.done (by kernel_rfl) ?_
       refine AW.region ?_
       refine ym ?_
       refine Y1 (Yv.addN_i64 rfl eV eV (fun hg => by omega)) ?_
       refine ya ?_
       refine ⟨j + 1, fs1, lA1, lc1, ⟨by omega, hni.add hjl hfits hget hl1⟩, by omega, (su (su (Sub.cons rfl (by simp) Sub.nil))), rfl⟩
      ·
       refine Y1 (Yv.loadRp rfl ag_9 eV (fun hg => fct_at (by omega))) (nl ?_)
       refine AWP.two (i := 6) (j := 13) (by kernel_rfl) rfl rfl ?_ ?_
       ·
        refine Y1 (Yv.loadRp rfl ag_9 eV (fun hg => fcn_at (by omega))) (nl ?_)
        refine p1 13 ?_
        refine AWL.strBytesRow rfl rfl (B rfl) rfl st_9 so_54 kd_5 (E rfl rfl) (by exact Nat.le_trans hdj (by unfold maxLen; decide)) (fun A51 c51 => ?_)
        refine nl ?_
        refine p1 14 ?_
        refine cE ce_43 [.box b1 64 [sv stdin, .sl 2 (files.flatMap fCells)]] (DSt b10 (ds0 fs lA lc stdin) ++ [fileRow ⟨(files.getD j default).1, (files.getD j default).2, A51, c51⟩]) rfl rfl rfl (lay35F b10 (ds0 fs lA lc stdin) files.length hfl (by omega) ⟨(files.getD j default).1, (files.getD j default).2, A51, c51⟩ hdj) ?_
        rintro t52 S52 ⟨rfl, fs1, lA1, lc1, hl1, rfl⟩
        refine nl ?_
        refine AWP.done (by kernel_rfl) ?_
        refine AW.region ?_
        refine ym ?_
        refine Y1 (Yv.addN_i64 rfl eV eV (fun hg => by omega)) ?_
        refine ya ?_
        refine ⟨j + 1, fs1, lA1, lc1, ⟨by omega, hni.add hjl hfits hget hl1⟩, by omega, (su (su (Sub.cons rfl (by simp) Sub.nil))), rfl⟩
       ·
        refine AWL.strBytesRow rfl rfl (B rfl) rfl st_9 so_54 kd_5 (E rfl rfl) (by exact Nat.le_trans hdj (by unfold maxLen; decide)) (fun A51 c51 => ?_)
        refine nl ?_
        refine p1 6 ?_
        refine Y1 (Yv.loadRp rfl ag_9 eV (fun hg => fcn_at (by omega))) (nl ?_)
        refine p1 14 ?_
        refine cE ce_43 [.box b1 64 [sv stdin, .sl 2 (files.flatMap fCells)]] (DSt b10 (ds0 fs lA lc stdin) ++ [fileRow ⟨(files.getD j default).1, (files.getD j default).2, A51, c51⟩]) rfl rfl rfl (lay35F b10 (ds0 fs lA lc stdin) files.length hfl (by omega) ⟨(files.getD j default).1, (files.getD j default).2, A51, c51⟩ hdj) ?_
        rintro t52 S52 ⟨rfl, fs1, lA1, lc1, hl1, rfl⟩
        refine nl ?_
        refine AWP.done (by kernel_rfl) ?_
        refine AW.region ?_
        refine ym ?_
        refine Y1 (Yv.addN_i64 rfl eV eV (fun hg => by omega)) ?_
        refine ya ?_
        refine ⟨j + 1, fs1, lA1, lc1, ⟨by omega, hni.add hjl hfits hget hl1⟩, by omega, (su (su (Sub.cons rfl (by simp) Sub.nil))), rfl⟩
    ·
     refine yl ag_62 0 (nl ?_)
     refine T1 (i := 10) rfl (freeIdxSl rfl ss_62 (by decide) (E rfl rfl) (E rfl rfl) ⟨rfl, by rw [len_fc]; omega⟩) ?_
     refine T1 (i := 11) rfl (freeFieldRp rfl fo_106_1 (E rfl rfl)) ?_
     refine AWP.two (i := 2) (j := 12) (by kernel_rfl) rfl rfl ?_ ?_
     ·
      refine yl ag_62 0 (nl ?_)
      refine T1 (i := 4) rfl (freeIdxSl rfl ss_62 (by decide) (E rfl rfl) (E rfl rfl) ⟨rfl, by rw [len_fc]; omega⟩) ?_
      refine T1 (i := 5) rfl (freeFieldRp rfl fo_106_0 (E rfl rfl)) ?_
      refine AWP.two (i := 6) (j := 12) (by kernel_rfl) rfl rfl ?_ ?_
      ·
       refine Y1 (Yv.loadRp rfl ag_9 eV (fun hg => fcn_at (by omega))) (nl ?_)
       refine p1 12 ?_
       refine Y1 (Yv.loadRp rfl ag_9 eV (fun hg => fct_at (by omega))) (nl ?_)
       refine p1 13 ?_
       refine AWL.strBytesRow rfl rfl (B rfl) rfl st_9 so_54 kd_5 (E rfl rfl) (by exact Nat.le_trans hdj (by unfold maxLen; decide)) (fun A51 c51 => ?_)
       refine nl ?_
       refine p1 14 ?_
       refine cE ce_43 [.box b1 64 [sv stdin, .sl 2 (files.flatMap fCells)]] (DSt b10 (ds0 fs lA lc stdin) ++ [fileRow ⟨(files.getD j default).1, (files.getD j default).2, A51, c51⟩]) rfl rfl rfl (lay35F b10 (ds0 fs lA lc stdin) files.length hfl (by omega) ⟨(files.getD j default).1, (files.getD j default).2, A51, c51⟩ hdj) ?_
       rintro t52 S52 ⟨rfl, fs1, lA1, lc1, hl1, rfl⟩
       refine nl ?_
       refine AWP.done (by kernel_rfl) ?_
       refine AW.region ?_
       refine ym ?_
       refine Y1 (Yv.addN_i64 rfl eV eV (fun hg => by omega)) ?_
       refine ya ?_
       refine ⟨j + 1, fs1, lA1, lc1, ⟨by omega, hni.add hjl hfits hget hl1⟩, by omega, (su (su (Sub.cons rfl (by simp) Sub.nil))), rfl⟩
      ·
       refine Y1 (Yv.loadRp rfl ag_9 eV (fun hg => fct_at (by omega))) (nl ?_)
       refine AWP.two (i := 6) (j := 13) (by kernel_rfl) rfl rfl ?_ ?_
       ·
        refine Y1 (Yv.loadRp rfl ag_9 eV (fun hg => fcn_at (by omega))) (nl ?_)
        refine p1 13 ?_
        refine AWL.strBytesRow rfl rfl (B rfl) rfl st_9 so_54 kd_5 (E rfl rfl) (by exact Nat.le_trans hdj (by unfold maxLen; decide)) (fun A51 c51 => ?_)
        refine nl ?_
        refine p1 14 ?_
        refine cE ce_43 [.box b1 64 [sv stdin, .sl 2 (files.flatMap fCells)]] (DSt b10 (ds0 fs lA lc stdin) ++ [fileRow ⟨(files.getD j default).1, (files.getD j default).2, A51, c51⟩]) rfl rfl rfl (lay35F b10 (ds0 fs lA lc stdin) files.length hfl (by omega) ⟨(files.getD j default).1, (files.getD j default).2, A51, c51⟩ hdj) ?_
        rintro t52 S52 ⟨rfl, fs1, lA1, lc1, hl1, rfl⟩
        refine nl ?_
        refine AWP.done (by kernel_rfl) ?_
        refine AW.region ?_
        refine ym ?_
        refine Y1 (Yv.addN_i64 rfl eV eV (fun hg => by omega)) ?_
        refine ya ?_
        refine ⟨j + 1, fs1, lA1, lc1, ⟨by omega, hni.add hjl hfits hget hl1⟩, by omega, (su (su (Sub.cons rfl (by simp) Sub.nil))), rfl⟩
       ·
        refine AWL.strBytesRow rfl rfl (B rfl) rfl st_9 so_54 kd_5 (E rfl rfl) (by exact Nat.le_trans hdj (by unfold maxLen; decide)) (fun A51 c51 => ?_)
        refine nl ?_
        refine p1 6 ?_
        refine Y1 (Yv.loadRp rfl ag_9 eV (fun hg => fcn_at (by omega))) (nl ?_)
        refine p1 14 ?_
        refine cE ce_43 [.box b1 64 [sv stdin, .sl 2 (files.flatMap fCells)]] (DSt b10 (ds0 fs lA lc stdin) ++ [fileRow ⟨(files.getD j default).1, (files.getD j default).2, A51, c51⟩]) rfl rfl rfl (lay35F b10 (ds0 fs lA lc stdin) files.length hfl (by omega) ⟨(files.getD j default).1, (files.getD j default).2, A51, c51⟩ hdj) ?_
        rintro t52 S52 ⟨rfl, fs1, lA1, lc1, hl1, rfl⟩
        refine nl ?_
        refine AWP.done (by kernel_rfl) ?_
        refine AW.region ?_
        refine ym ?_
        refine Y1 (Yv.addN_i64 rfl eV eV (fun hg => by omega)) ?_
        refine ya ?_
        refine ⟨j + 1, fs1, lA1, lc1, ⟨by omega, hni.add hjl hfits hget hl1⟩, by omega, (su (su (Sub.cons rfl (by simp) Sub.nil))), rfl⟩
     ·
      refine Y1 (Yv.loadRp rfl ag_9 eV (fun hg => fct_at (by omega))) (nl ?_)
      refine AWP.two (i := 2) (j := 13) (by kernel_rfl) rfl rfl ?_ ?_
      ·
       refine yl ag_62 0 (nl ?_)
       refine T1 (i := 4) rfl (freeIdxSl rfl ss_62 (by decide) (E rfl rfl) (E rfl rfl) ⟨rfl, by rw [len_fc]; omega⟩) ?_
       refine T1 (i := 5) rfl (freeFieldRp rfl fo_106_0 (E rfl rfl)) ?_
       refine AWP.two (i := 6) (j := 13) (by kernel_rfl) rfl rfl ?_ ?_
       ·
        refine Y1 (Yv.loadRp rfl ag_9 eV (fun hg => fcn_at (by omega))) (nl ?_)
        refine p1 13 ?_
        refine AWL.strBytesRow rfl rfl (B rfl) rfl st_9 so_54 kd_5 (E rfl rfl) (by exact Nat.le_trans hdj (by unfold maxLen; decide)) (fun A51 c51 => ?_)
        refine nl ?_
        refine p1 14 ?_
        refine cE ce_43 [.box b1 64 [sv stdin, .sl 2 (files.flatMap fCells)]] (DSt b10 (ds0 fs lA lc stdin) ++ [fileRow ⟨(files.getD j default).1, (files.getD j default).2, A51, c51⟩]) rfl rfl rfl (lay35F b10 (ds0 fs lA lc stdin) files.length hfl (by omega) ⟨(files.getD j default).1, (files.getD j default).2, A51, c51⟩ hdj) ?_
        rintro t52 S52 ⟨rfl, fs1, lA1, lc1, hl1, rfl⟩
        refine nl ?_
        refine AWP.done (by kernel_rfl) ?_
        refine AW.region ?_
        refine ym ?_
        refine Y1 (Yv.addN_i64 rfl eV eV (fun hg => by omega)) ?_
        refine ya ?_
        refine ⟨j + 1, fs1, lA1, lc1, ⟨by omega, hni.add hjl hfits hget hl1⟩, by omega, (su (su (Sub.cons rfl (by simp) Sub.nil))), rfl⟩
       ·
        refine AWL.strBytesRow rfl rfl (B rfl) rfl st_9 so_54 kd_5 (E rfl rfl) (by exact Nat.le_trans hdj (by unfold maxLen; decide)) (fun A51 c51 => ?_)
        refine nl ?_
        refine p1 6 ?_
        refine Y1 (Yv.loadRp rfl ag_9 eV (fun hg => fcn_at (by omega))) (nl ?_)
        refine p1 14 ?_
        refine cE ce_43 [.box b1 64 [sv stdin, .sl 2 (files.flatMap fCells)]] (DSt b10 (ds0 fs lA lc stdin) ++ [fileRow ⟨(files.getD j default).1, (files.getD j default).2, A51, c51⟩]) rfl rfl rfl (lay35F b10 (ds0 fs lA lc stdin) files.length hfl (by omega) ⟨(files.getD j default).1, (files.getD j default).2, A51, c51⟩ hdj) ?_
        rintro t52 S52 ⟨rfl, fs1, lA1, lc1, hl1, rfl⟩
        refine nl ?_
        refine AWP.done (by kernel_rfl) ?_
        refine AW.region ?_
        refine ym ?_
        refine Y1 (Yv.addN_i64 rfl eV eV (fun hg => by omega)) ?_
        refine ya ?_
        refine ⟨j + 1, fs1, lA1, lc1, ⟨by omega, hni.add hjl hfits hget hl1⟩, by omega, (su (su (Sub.cons rfl (by simp) Sub.nil))), rfl⟩
      ·
       refine AWL.strBytesRow rfl rfl (B rfl) rfl st_9 so_54 kd_5 (E rfl rfl) (by exact Nat.le_trans hdj (by unfold maxLen; decide)) (fun A51 c51 => ?_)
       refine nl ?_
       refine p1 2 ?_
       refine yl ag_62 0 (nl ?_)
       refine p1 4 ?_
       refine Y1 (Yv.indexSl rfl ss_62 (B rfl) eV eV (fun hg => ⟨rfl, (by first | omega | (simp only [len_fc, len_ev]; omega))⟩)) (nl ?_)
       refine p1 5 ?_
       refine Y1 (Yv.fieldRp rfl fo_106_0 eV) (nl ?_)
       refine p1 6 ?_
       refine Y1 (Yv.loadRp rfl ag_9 eV (fun hg => fcn_at (by omega))) (nl ?_)
       refine p1 14 ?_
       refine cE ce_43 [.box b1 64 [sv stdin, .sl 2 (files.flatMap fCells)]] (DSt b10 (ds0 fs lA lc stdin) ++ [fileRow ⟨(files.getD j default).1, (files.getD j default).2, A51, c51⟩]) rfl rfl rfl (lay35F b10 (ds0 fs lA lc stdin) files.length hfl (by omega) ⟨(files.getD j default).1, (files.getD j default).2, A51, c51⟩ hdj) ?_
       rintro t52 S52 ⟨rfl, fs1, lA1, lc1, hl1, rfl⟩
       refine nl ?_
       refine AWP.done (by kernel_rfl) ?_
       refine AW.region ?_
       refine ym ?_
       refine Y1 (Yv.addN_i64 rfl eV eV (fun hg => by omega)) ?_
       refine ya ?_
       refine ⟨j + 1, fs1, lA1, lc1, ⟨by omega, hni.add hjl hfits hget hl1⟩, by omega, (su (su (Sub.cons rfl (by simp) Sub.nil))), rfl⟩
   try replace h1f := odf h1f
   have hno : fitsB (files.getD j default).1 = false ∨ ¬ getP (files.getD j default).1 (fs.map nb) = none := by
    rw [Bool.and_eq_false_iff, ← fits_eq] at h1f
    rcases h1f with h | h
    ·exact .inl h
    ·right
     intro hx
     have h2 := odf h
     have h3 : ¬ findP (files.getD j default).1 (fs.map nb) < 0 := h2
     rcases findP_get (name := (files.getD j default).1) (l := fs.map nb) with ⟨h4, _⟩ | ⟨q, _, _, _, h4, _⟩
     ·rw [h4] at h3; exact h3 (by decide)
     ·rw [hx] at h4; cases h4
   refine AW.skip ?_
   refine AW.region ?_
   refine ym ?_
   refine Y1 (Yv.addN_i64 rfl eV eV (fun hg => by omega)) ?_
   refine ya ?_
   refine ⟨j + 1, fs, lA, lc, ⟨by omega, hni.skip hjl hno⟩, by omega, (su (su (Sub.cons rfl (by simp) Sub.nil))), rfl⟩
  try replace h0f := odf h0f
  refine AW.exit ?_
  refine rs (ym ?_)
  refine AWL.makeRow (n := 19) (c := 19) rfl rfl (B rfl) rfl el_81 (E rfl rfl) (E rfl rfl) (by decide) (by decide) (by unfold maxLen; decide) (fun A54 => ?_)
  refine Y1 (Yv.nilChk rfl eV) ?_
  refine yf fo_84_2 ?_
  refine AWL.storeBox (i := 1) rfl rfl rfl ag_81 rfl (E rfl rfl) (E rfl rfl) rfl rfl nB (nl ?_)
  refine AW.dropAt 0 ?_
  refine AW.dropAt 2 ?_
  refine AW.perm (S' := DSt b10 { (ds0 fs lA lc stdin) with opn := opnZ, dA := A54, dc := 19 }) (new_perm _ _ _ _ _) ?_
  refine rs (ym ?_)
  refine Y1 (Yv.nilChk rfl eV) ?_
  refine yf fo_84_2 ?_
  refine yl ag_81 0 ?_
  refine Y1 (Yv.indexRow (j := 0) rfl ss_81 (i := 2) rfl (E rfl rfl) (E rfl rfl) (fun hg => ⟨rfl, by show (0 : Nat) < 19; decide⟩)) ?_
  refine Y1 (Yv.fieldEp rfl fo_110_0 eV) ?_
  refine AWL.storeEp1 (i := 2) rfl rfl rfl ag_3 rfl (E rfl rfl) (E rfl rfl) rfl rfl (by exact Nat.le_of_ble_eq_true rfl) (nl ?_)
  refine rs (ym ?_)
  refine Y1 (Yv.nilChk rfl eV) ?_
  refine yf fo_84_2 ?_
  refine yl ag_81 0 ?_
  refine Y1 (Yv.indexRow (j := 1) rfl ss_81 (i := 2) rfl (E rfl rfl) (E rfl rfl) (fun hg => ⟨rfl, by show (1 : Nat) < 19; decide⟩)) ?_
  refine Y1 (Yv.fieldEp rfl fo_110_0 eV) ?_
  refine AWL.storeEp1 (i := 2) rfl rfl rfl ag_3 rfl (E rfl rfl) (E rfl rfl) rfl rfl (by exact Nat.le_of_ble_eq_true rfl) (nl ?_)
  refine rs (ym ?_)
  refine Y1 (Yv.nilChk rfl eV) ?_
  refine yf fo_84_2 ?_
  refine yl ag_81 0 ?_
  refine Y1 (Yv.indexRow (j := 2) rfl ss_81 (i := 2) rfl (E rfl rfl) (E rfl rfl) (fun hg => ⟨rfl, by show (2 : Nat) < 19; decide⟩)) ?_
  refine Y1 (Yv.fieldEp rfl fo_110_0 eV) ?_
  refine AWL.storeEp1 (i := 2) rfl rfl rfl ag_3 rfl (E rfl rfl) (E rfl rfl) rfl rfl (by exact Nat.le_of_ble_eq_true rfl) (nl ?_)
  refine AW.eqS (S' := DSt b10 { (ds0 fs lA lc stdin) with opn := opn0, dA := A54, dc := 19 }) rfl ?_
  refine rs (ym ?_)
  refine ya ?_
  refine AW.ret (retI (.tmp rfl .nil) ?_)
  refine ⟨b10, { (ds0 fs lA lc stdin) with opn := opn0, dA := A54, dc := 19 }, rfl, rfl, rfl, rfl, rfl, ?_⟩
  have h := hni
  rw [List.take_of_length_le (by omega)] at h
  exact h

end Go.Proofs.YtpgbpdnmjeoeoaaGreat.V

namespace Go.Proofs.YtpgbpdnmjeoeoaaGreat.V
open Go Go.RowKit
structure RP (n : Nat) (p : PW) : Prop where
 pb : PB n p
 nm : Named p
 nd : (p.files.map (·.1)).Nodup
 ns : ∀ f ∈ p.files, f.1.length ≤ 255
theorem putP_ns {name : Nm} {b : List UInt8} {l : Fl} (h : ∀ f ∈ l, f.1.length ≤ 255) (hn : name.length ≤ 255) : ∀ f ∈ putP name b l, f.1.length ≤ 255 := by
 intro f hf
 induction l with
 | nil => rw [putP] at hf; rw [List.mem_singleton.1 hf]; exact hn
 | cons x r ih =>
  rw [putP] at hf
  split at hf
  ·rcases List.mem_cons.1 hf with rfl | hf
   ·exact hn
   ·exact h f (List.mem_cons_of_mem _ hf)
  ·rcases List.mem_cons.1 hf with rfl | hf
   ·exact h _ (List.mem_cons_self ..)
   ·exact ih (fun g hg => h g (List.mem_cons_of_mem _ hg)) hf
theorem open_short {name : Nm} {flags : Int} {p : PW} (h : ¬ openV name flags p < 0) : name.length ≤ 255 := by
 rcases Nat.lt_or_ge 255 name.length with q | q
 ·exfalso
  unfold openV at h
  rw [if_pos q] at h
  exact h (by decide)
 exact q
theorem RP.of_open {n : Nat} {p : PW} (h : RP n p) (name : Nm) (flags : Int) : RP (n + 1) (openP name flags p) := by
 refine ⟨?_, named_open h.nm name flags, ?_, ?_⟩
 ·by_cases hf : flags = 577
  ·rw [hf]; exact h.pb.opened name
  exact (h.pb.open0 name flags hf).mono (by omega)
 ·unfold openP
  split
  ·exact h.nd
  split
  ·exact putP_nodup h.nd
  exact h.nd
 unfold openP
 split
 ·exact h.ns
 rename_i hv
 split
 ·exact putP_ns h.ns (open_short hv)
 exact h.ns
theorem RP.close {n : Nat} {p : PW} (h : RP n p) (fd : Int) : RP n (closeP fd p) := by
 refine ⟨h.pb.close fd, named_close h.nm fd, ?_, ?_⟩
 ·unfold closeP
  split
  ·exact h.nd
  exact h.nd
 unfold closeP
 split
 ·exact h.ns
 exact h.ns
theorem RP.write {n : Nat} {p : PW} (h : RP n p) (fd : Int) (s : List UInt8) : RP (n + 1 + s.length) (writeP fd s p) := by
 refine ⟨h.pb.write fd s, named_write h.nm fd s, ?_, ?_⟩
 ·unfold writeP
  split
  ·exact h.nd
  split
  ·exact h.nd
  split
  ·split
   ·exact h.nd
   exact putP_nodup h.nd
  exact h.nd
 unfold writeP
 split
 ·exact h.ns
 split
 ·exact h.ns
 split
 ·rename_i hk
  split
  ·exact h.ns
  obtain ⟨_, _, _, hm, he⟩ := kind_in h.nm (fd := fd) (by rw [hk]; decide)
  obtain ⟨b, hb⟩ := Option.isSome_iff_exists.1 (h.nm.2 _ hm (.inr (he ▸ hk)))
  exact putP_ns h.ns (h.ns _ (getP_mem hb))
 exact h.ns
theorem RP.wf {n : Nat} {p : PW} (h : RP n p) (name : Nm) (s : List UInt8) : RP (n + 2 + s.length) (wfP name s p) := by
 refine ⟨h.pb.wf name s, named_wf h.nm name s, ?_, ?_⟩
 ·unfold wfP
  split
  ·exact h.nd
  exact (((h.of_open name 577).write _ s).close _).nd
 unfold wfP
 split
 ·exact h.ns
 exact (((h.of_open name 577).write _ s).close _).ns
end Go.Proofs.YtpgbpdnmjeoeoaaGreat.V

namespace Go.Proofs.YtpgbpdnmjeoeoaaGreat
open Go Go.RowKit
structure Pc where
 prog : Prog
 heap : Wd64
 strict : Bool
 ent : Bool
 st : Int
 ans : Wd64
 code : Int
 steps : Int
def psOf (c : Pc) (lab w pg : T) : PS := ⟨c.prog, lab, c.heap, c.strict, w, pg, c.ent, c.st, c.ans, c.code, c.steps⟩
structure Mc where
 c : Pc
 x : Fr
 bl : List Fr
 mem : Mf
 w : V.PW
def fnOf (p : Prog) (x : Fr) : Fn := p.funs.getD x.f.toNat default
def insOf (p : Prog) (x : Fr) : Ins := (fnOf p x).code.getD x.at_.toNat default
def codeOf (v : Wd64) : Int := IntKind.i64.wrap ((v &&& 255#64).toNat : Int)
def backC (c : Pc) (v : Wd64) : Pc := if c.ent = true then { c with st := 3, ans := v } else { c with st := 1, code := codeOf v }
theorem back_ps (c : Pc) (l w p : T) (v : Wd64) : backP (psOf c l w p) v = psOf (backC c v) l w p := by
 unfold backP backC psOf
 dsimp only
 split <;> rfl
def backM (m : Mc) (v : Wd64) : Mc :=
 match m.bl with
 | [] => { m with c := backC m.c v }
 | y :: r => { m with x := setD y m.x.d v, bl := r }
def argsF (x : Fr) (i : Ins) : List Wd64 := i.args.map (rA x)
def whereOf (p : Prog) (x : Fr) (l : Int) : Int := getL l (whL (fnOf p x).code)
def toN (x : Fr) (i : Ins) : Wd64 := (rA x i.a - 4194304#64) / 16#64
def badTo (p : Prog) (x : Fr) (i : Ins) : Bool :=
 ((decide (rA x i.a < 4194304#64) || !decide ((rA x i.a - 4194304#64) % 16#64 = 0#64)) || decide (wI (p.funs.length : Int) ≤ toN x i)) || !decide ((p.funs.getD (toN x i).toNat default).params = (i.args.length : Int))
def calleeF (p : Prog) (x : Fr) (i : Ins) : Option Nat :=
 if i.kind = 23 ∨ i.kind = 25 then (if badTo p x i = true then none else some (toN x i).toNat) else some i.f.toNat
def callF (strict : Bool) (x : Fr) : Fr := { x with at_ := x.at_ + 1, set := if strict = true then List.replicate x.nr false else x.set }
def jumpM (m : Mc) (i : Ins) : Option Mc :=
 match calleeF m.c.prog m.x i with
 | none => none
 | some f =>
  if i.kind = 24 ∨ i.kind = 25 then some { m with x := openFr (m.c.prog.funs.getD f default) f (argsF m.x i) m.x.d }
  else if 1048576 ≤ m.bl.length + 1 then none
  else some { m with x := openFr (m.c.prog.funs.getD f default) f (argsF m.x i) i.d, bl := callF m.c.strict m.x :: m.bl }
/-! ### system calls -/
def sysA (x : Fr) (i : Ins) (k : Nat) : Wd64 := if k < i.args.length then rA x (i.args.getD k default) else 0#64
def bytesAt (mem : Mf) (a : Wd64) (n : Nat) : List UInt8 := (List.range n).map fun (k : Nat) => mem (a + wI (k : Int))
def putsN (m : Mf) (a : Wd64) (t : List UInt8) : Nat → Mf
 | 0 => m
 | n + 1 => updM (putsN m a t n) (a + wI (n : Int)) (t.getD n 0)
inductive NmR where
 | bad : NmR
 | long : NmR
 | is : List UInt8 → NmR
def nameF (th : Wd64 → Bool) (mem : Mf) (a : Wd64) : Nat → Nat → List UInt8 → NmR
 | 0, _, _ => .long
 | n + 1, k, acc => if decide (a + wI (k : Int) < a) = true ∨ th (a + wI (k : Int)) = false then .bad else if mem (a + wI (k : Int)) = 0 then .is acc else nameF th mem a n (k + 1) (acc ++ [mem (a + wI (k : Int))])
def thereC (c : Pc) (a n : Wd64) : Bool := thereF (psData c.prog) c.heap a n
def badMem (c : Pc) (a n : Wd64) : Bool := decide (0#64 < n) && !thereC c a n
structure SysR where
 n : Int
 mem : Mf
 w : V.PW
def rdM (c : Pc) (mem : Mf) (w : V.PW) (fd : Int) (a n : Wd64) : SysR :=
 if 2147483648#64 < n then ⟨-22, mem, w⟩ else if badMem c a n = true then ⟨-14, mem, w⟩
 else ⟨(V.readV fd n.toNat w).2, putsN mem a (V.readV fd n.toNat w).1 (V.readV fd n.toNat w).1.length, V.readP fd n.toNat w⟩
def wrM (c : Pc) (mem : Mf) (w : V.PW) (fd : Int) (a n : Wd64) : SysR :=
 if 2147483648#64 < n then ⟨-22, mem, w⟩ else if badMem c a n = true then ⟨-14, mem, w⟩
 else ⟨V.writeV fd (bytesAt mem a n.toNat) w, mem, V.writeP fd (bytesAt mem a n.toNat) w⟩
def opM (c : Pc) (mem : Mf) (w : V.PW) (a : Wd64) (flags : Int) : SysR :=
 match nameF (fun z => thereC c z 1#64) mem a 256 0 [] with
 | .bad => ⟨-14, mem, w⟩
 | .long => ⟨-36, mem, w⟩
 | .is l => ⟨V.openV l flags w, mem, V.openP l flags w⟩
def clM (mem : Mf) (w : V.PW) (fd : Int) : SysR := ⟨V.closeV fd w, mem, V.closeP fd w⟩
def sysR (m : Mc) (i : Ins) : Option SysR :=
 if i.imm = 0 then some (rdM m.c m.mem m.w (sI (sysA m.x i 0)) (sysA m.x i 1) (sysA m.x i 2))
 else if i.imm = 1 then some (wrM m.c m.mem m.w (sI (sysA m.x i 0)) (sysA m.x i 1) (sysA m.x i 2))
 else if i.imm = 2 then some (opM m.c m.mem m.w (sysA m.x i 0) (sI (sysA m.x i 1)))
 else if i.imm = 3 then some (clM m.mem m.w (sI (sysA m.x i 0)))
 else none
def sysM (m : Mc) (i : Ins) : Option Mc :=
 if i.imm = 60 then some { m with c := { m.c with st := 1, code := codeOf (sysA m.x i 0) } }
 else match sysR m i with
  | none => none
  | some r => some { m with x := goF (setD m.x i.d (wI r.n)), mem := r.mem, w := r.w }
/-! ### a step -/
def adF (x : Fr) (i : Ins) : Wd64 := rA x i.a + wI i.imm
def memOk (c : Pc) (a : Wd64) (z : Int) : Bool := sizeOk z && thereC c a (wI z)
def jmpF (p : Prog) (x : Fr) (i : Ins) : Fr := { x with at_ := if i.kind = 20 ∨ holdsF i.cond (rA x i.a) (rA x i.b) = true then whereOf p x i.l else x.at_ + 1 }
def stepM (R : Int → Wd64 → Wd64 → Wd64) (m : Mc) (i : Ins) : Option Mc :=
 if okS m.x.set (readsF i) = false then none
 else if i.kind = 20 ∨ i.kind = 21 then some { m with x := jmpF m.c.prog m.x i }
 else if i.kind = 26 then some (backM m (rA m.x i.a))
 else if i.kind = 22 ∨ i.kind = 23 ∨ i.kind = 24 ∨ i.kind = 25 then jumpM m i
 else if i.kind = 18 then (if memOk m.c (adF m.x i) i.size = true then some { m with x := goF m.x, mem := putsF m.mem (adF m.x i) (rA m.x i.b) i.size.toNat } else none)
 else if i.kind = 17 then (if memOk m.c (adF m.x i) i.size = true then some { m with x := goF (setD m.x i.d (leF m.mem (adF m.x i) i.size.toNat)) } else none)
 else if i.kind = 30 then sysM m i
 else (stepA R m.c.heap m.x i).map fun x => { m with x := x }
def stuckC (m : Mc) : Mc := { m with c := { m.c with st := 2 } }
def tickC (m : Mc) : Mc := { m with c := { m.c with steps := m.c.steps + 1 } }
def skipL (L : List Ins) : Nat → Nat → Nat
 | 0, a => a
 | n + 1, a => if (L.getD a default).kind = 19 then skipL L n (a + 1) else a
def advF (p : Prog) (x : Fr) : Fr := { x with at_ := (skipL (fnOf p x).code ((fnOf p x).code.length - x.at_.toNat) x.at_.toNat : Nat) }
def advM (m : Mc) : Mc := { m with x := advF m.c.prog m.x }
def runM (R : Int → Wd64 → Wd64 → Wd64) : Nat → Mc → Mc
 | 0, m => m
 | n + 1, m => if m.c.st ≠ 0 then m else
  match stepM R (advM m) (insOf m.c.prog (advM m).x) with
  | none => stuckC (advM m)
  | some q => runM R n (tickC q)
/-! ### what is kept -/
structure FrIn (p : Prog) (x : Fr) : Prop where
 f0 : 0 ≤ x.f
 f1 : x.f.toNat < p.funs.length
 nr : x.nr = (fnOf p x).regs.toNat
 ns : x.ns = (fnOf p x).slots.toNat
 ok : FrOk x
 a0 : 0 ≤ x.at_
 a1 : x.at_.toNat < (fnOf p x).code.length
def Chain : Fr → List Fr → Prop
 | _, [] => True
 | x, y :: r => (0 ≤ x.d ∧ x.d < (y.nr : Int)) ∧ Chain y r
structure MOk (p : Prog) (m : Mc) : Prop where
 prog : m.c.prog = p
 top : FrIn p m.x
 bl : ∀ y ∈ m.bl, FrIn p y
 ch : Chain m.x m.bl
 dep : m.bl.length < 1048576
theorem FrIn.fn {p : Prog} {x : Fr} (hp : ProgOk p) (h : FrIn p x) : FnOk p (fnOf p x) := hp.fn _ (getD_mem h.f1)
theorem FrIn.ins {p : Prog} {x : Fr} (hp : ProgOk p) (h : FrIn p x) : InsOk p (fnOf p x) (cntL (fnOf p x).code) (insOf p x) := (h.fn hp).ins _ (getD_mem h.a1)
theorem FrIn.more {p : Prog} {x : Fr} (hp : ProgOk p) (h : FrIn p x) (hk : endsF (insOf p x).kind = false) : x.at_.toNat + 1 < (fnOf p x).code.length := by
 have hl := (h.fn hp).last
 have h1 := h.a1
 rcases Nat.lt_or_ge (x.at_.toNat + 1) (fnOf p x).code.length with q | q
 ·exact q
 exfalso
 unfold lastK at hl
 rw [show (fnOf p x).code.length - 1 = x.at_.toNat by omega] at hl
 unfold insOf at hk
 rw [hl] at hk; cases hk
theorem FrIn.jump {p : Prog} {x : Fr} (hp : ProgOk p) (h : FrIn p x) {j : Int} (hj : j ∈ nextF (whL (fnOf p x).code) (insOf p x) x.at_.toNat) : FrIn p { x with at_ := j } := by
 have := next_in (h.fn hp) h.a1 j hj
 exact ⟨h.f0, h.f1, h.nr, h.ns, ⟨h.ok.r, h.ok.s, h.ok.t, h.ok.h⟩, this.1, this.2⟩
theorem FrIn.go {p : Prog} {x : Fr} (hp : ProgOk p) (h : FrIn p x) (hk : endsF (insOf p x).kind = false) : FrIn p (goF x) := by
 have := h.more hp hk
 have := h.a0
 exact ⟨h.f0, h.f1, h.nr, h.ns, goF_ok h.ok, by show 0 ≤ x.at_ + 1; omega, by show (x.at_ + 1).toNat < (fnOf p x).code.length; omega⟩
theorem FrIn.setD {p : Prog} {x : Fr} (h : FrIn p x) (d : Int) (v : Wd64) : FrIn p (setD x d v) := ⟨h.f0, h.f1, h.nr, h.ns, setD_ok h.ok d v, h.a0, h.a1⟩
theorem FrIn.call {p : Prog} {x : Fr} (hp : ProgOk p) (h : FrIn p x) (hk : endsF (insOf p x).kind = false) (s : Bool) : FrIn p (callF s x) := by
 have g := h.go hp hk
 refine ⟨g.f0, g.f1, g.nr, g.ns, ⟨g.ok.r, g.ok.s, ?_, g.ok.h⟩, g.a0, g.a1⟩
 show (if s = true then List.replicate x.nr false else x.set).length = x.nr
 split
 ·exact List.length_replicate ..
 exact h.ok.t
theorem FrIn.open {p : Prog} (hp : ProgOk p) {f : Nat} (hf : f < p.funs.length) {args : List Wd64} (ha : (args.length : Int) = (p.funs.getD f default).params) (d : Int) : FrIn p (openFr (p.funs.getD f default) f args d) := by
 have h := hp.fn _ (getD_mem hf)
 have e : fnOf p (openFr (p.funs.getD f default) f args d) = p.funs.getD f default := rfl
 have h1 := h.par2
 refine ⟨by show (0 : Int) ≤ (f : Int); omega, hf, by rw [e]; rfl, by rw [e]; rfl, ⟨?_, ?_, ?_, ?_⟩, by show (0 : Int) ≤ 0; omega, by rw [e]; exact h.code⟩
 ·show (rJ args (p.funs.getD f default).regs.toNat args.length).length = (p.funs.getD f default).regs.toNat
  exact rj_len (Nat.le_refl _) (by omega)
 ·exact List.length_replicate ..
 ·show (sJ (p.funs.getD f default).regs.toNat args.length).length = (p.funs.getD f default).regs.toNat
  exact sj_len (by omega)
 exact List.length_replicate ..
theorem Chain.top {x x' : Fr} {l : List Fr} (h : Chain x l) (hd : x'.d = x.d) : Chain x' l := by
 cases l with
 | nil => trivial
 | cons y r => exact ⟨by rw [hd]; exact h.1, h.2⟩
end Go.Proofs.YtpgbpdnmjeoeoaaGreat

namespace Go.Proofs.YtpgbpdnmjeoeoaaGreat
open Go Go.RowKit
theorem mapsE_at {bs : List Nat} {fs : List Fn} {f : Nat} (h : f < fs.length) (hb : bs.length = fs.length) : ∃ R, (mapsE bs fs).Perm (Ent.map (bs.getD f 0) (lmT (whL (fs.getD f default).code)) :: R) := by
 have hz : f < (bs.zip fs).length := by rw [List.length_zip]; omega
 have e : (bs.zip fs) = (bs.zip fs).take f ++ (bs.zip fs)[f] :: (bs.zip fs).drop (f + 1) := by rw [← List.drop_eq_getElem_cons hz, List.take_append_drop]
 refine ⟨(((bs.zip fs).take f).map fun q => Ent.map q.1 (lmT (whL q.2.code))) ++ (((bs.zip fs).drop (f + 1)).map fun q => Ent.map q.1 (lmT (whL q.2.code))), ?_⟩
 unfold mapsE
 conv => lhs; rw [e]
 rw [List.map_append, List.map_cons]
 refine List.perm_middle.trans ?_
 rw [List.getElem_zip]
 refine List.Perm.of_eq ?_
 congr 2
 ·show bs[f] = bs.getD f 0
  rw [List.getD_eq_getElem?_getD, List.getElem?_eq_getElem (by omega)]; rfl
 rw [gd h]
theorem pJ {A X Y MP R : St} {LR LM : Ent} (h : MP.Perm (LM :: R)) : (A ++ (X ++ (Y ++ (LR :: MP)))).Perm ((A ++ [LR, LM]) ++ (X ++ (Y ++ R))) := by
 rw [List.append_assoc]
 refine List.Perm.append_left A ?_
 refine List.Perm.trans (((h.cons LR).append_left Y).append_left X) ?_
 show (X ++ (Y ++ ([LR, LM] ++ R))).Perm ([LR, LM] ++ (X ++ (Y ++ R)))
 exact ((List.perm_append_comm_assoc Y [LR, LM] R).append_left X).trans (List.perm_append_comm_assoc X [LR, LM] (Y ++ R))
theorem pC {A C X Y Z : St} : (A ++ (X ++ ((C ++ Y) ++ Z))).Perm ((A ++ C) ++ (X ++ (Y ++ Z))) := by
 rw [List.append_assoc A C, List.append_assoc C Y]
 exact (List.perm_append_comm_assoc X C (Y ++ Z)).append_left A
theorem pM {A X W Y : St} : (A ++ ((X ++ W) ++ Y)).Perm ((A ++ X) ++ (W ++ Y)) := by
 rw [List.append_assoc, List.append_assoc]
theorem pS {A X Y : St} : (A ++ (X ++ Y)).Perm ((A ++ X) ++ Y) := by rw [List.append_assoc]
section
variable {p : Prog} {x : Fr}
theorem FrIn.nrI (hp : ProgOk p) (h : FrIn p x) : (x.nr : Int) = (fnOf p x).regs := by
 have h1 := h.fn hp
 have := h1.par0
 have := h1.par2
 rw [h.nr]; omega
theorem FrIn.nsI (hp : ProgOk p) (h : FrIn p x) : (x.ns : Int) = (fnOf p x).slots := by
 have := (h.fn hp).slot0
 rw [h.ns]; omega
structure InsB (x : Fr) (i : Ins) : Prop where
 a : (hasF i.kind).a = true → 0 ≤ i.a ∧ i.a < (x.nr : Int)
 b : (hasF i.kind).b = true → 0 ≤ i.b ∧ i.b < (x.nr : Int)
 d : (hasF i.kind).d = true → 0 ≤ i.d ∧ i.d < (x.nr : Int)
 args : (hasF i.kind).args = true → ∀ r ∈ i.args, 0 ≤ r ∧ r < (x.nr : Int)
 slot : i.kind = 31 ∨ i.kind = 32 → 0 ≤ i.imm ∧ i.imm < (x.ns : Int)
 rd : ∀ r ∈ readsF i, 0 ≤ r ∧ r < (x.nr : Int)
 len : i.args.length ≤ 1048576
 at_ : 0 ≤ x.at_ ∧ x.at_ ≤ 4611686018427387904
theorem FrIn.bounds (hp : ProgOk p) (hpi : ProgIn p) (h : FrIn p x) : InsB x (insOf p x) := by
 have io := h.ins hp
 have e := h.nrI hp
 have ha : (hasF (insOf p x).kind).a = true → 0 ≤ (insOf p x).a ∧ (insOf p x).a < (x.nr : Int) := fun q => by rw [e]; exact io.a q
 have hb : (hasF (insOf p x).kind).b = true → 0 ≤ (insOf p x).b ∧ (insOf p x).b < (x.nr : Int) := fun q => by rw [e]; exact io.b q
 have hg : (hasF (insOf p x).kind).args = true → ∀ r ∈ (insOf p x).args, 0 ≤ r ∧ r < (x.nr : Int) := fun q r hr => by rw [e]; exact (io.args q).1 r hr
 refine ⟨ha, hb, fun q => by rw [e]; exact io.d q, hg, fun q => by rw [h.nsI hp]; exact io.slot q, fun r hr => ?_, ?_, h.a0, ?_⟩
 ·unfold readsF rd2 rd1 at hr
  rcases List.mem_append.1 hr with hr | hr
  ·rcases List.mem_append.1 hr with hr | hr
   ·split at hr
    ·rename_i q
     rw [List.mem_singleton.1 hr]; exact ha q
    cases hr
   split at hr
   ·rename_i q
    rw [List.mem_singleton.1 hr]; exact hb q
   cases hr
  split at hr
  ·rename_i q
   exact hg q r hr
  cases hr
 ·exact ((hpi.fn _ (getD_mem h.f1)).ins _ (getD_mem h.a1)).args
 have := h.a1
 have h2 : (fnOf p x).code.length ≤ 1048576 := (hpi.fn _ (getD_mem h.f1)).code
 have := h.a0
 omega
end
theorem isF_in {k : Int} (h : isF k = true) : 1 ≤ k ∧ k ≤ 32 := by
 unfold isF ofF at h
 by_cases q : 1 ≤ k ∧ k ≤ 32
 ·exact q
 exfalso
 repeat (first | (rw [if_neg (by omega)] at h) | (cases h))
section
variable {RF : Int → Wd64 → Wd64 → Wd64} {p : Prog} {m : Mc}
theorem step_0 {i : Ins} (h : okS m.x.set (readsF i) = false) : stepM RF m i = none := by rw [stepM, if_pos h]
theorem stepJ {i : Ins} (h0 : okS m.x.set (readsF i) = true) (hk : i.kind = 20 ∨ i.kind = 21) : stepM RF m i = some { m with x := jmpF m.c.prog m.x i } := by rw [stepM, if_neg (by rw [h0]; decide), if_pos hk]
theorem stepB {i : Ins} (h0 : okS m.x.set (readsF i) = true) (hk : i.kind = 26) : stepM RF m i = some (backM m (rA m.x i.a)) := by rw [stepM, if_neg (by rw [h0]; decide), if_neg (by omega), if_pos hk]
theorem stepC {i : Ins} (h0 : okS m.x.set (readsF i) = true) (hk : i.kind = 22 ∨ i.kind = 23 ∨ i.kind = 24 ∨ i.kind = 25) : stepM RF m i = jumpM m i := by rw [stepM, if_neg (by rw [h0]; decide), if_neg (by omega), if_neg (by omega), if_pos hk]
theorem stepSt {i : Ins} (h0 : okS m.x.set (readsF i) = true) (hk : i.kind = 18) : stepM RF m i = if memOk m.c (adF m.x i) i.size = true then some { m with x := goF m.x, mem := putsF m.mem (adF m.x i) (rA m.x i.b) i.size.toNat } else none := by rw [stepM, if_neg (by rw [h0]; decide), if_neg (by omega), if_neg (by omega), if_neg (by omega), if_pos hk]
theorem stepLd {i : Ins} (h0 : okS m.x.set (readsF i) = true) (hk : i.kind = 17) : stepM RF m i = if memOk m.c (adF m.x i) i.size = true then some { m with x := goF (setD m.x i.d (leF m.mem (adF m.x i) i.size.toNat)) } else none := by rw [stepM, if_neg (by rw [h0]; decide), if_neg (by omega), if_neg (by omega), if_neg (by omega), if_neg (by omega), if_pos hk]
theorem stepSy {i : Ins} (h0 : okS m.x.set (readsF i) = true) (hk : i.kind = 30) : stepM RF m i = sysM m i := by rw [stepM, if_neg (by rw [h0]; decide), if_neg (by omega), if_neg (by omega), if_neg (by omega), if_neg (by omega), if_neg (by omega), if_pos hk]
theorem stepV {i : Ins} (hk : valK i.kind ∨ i.kind = 32) (h17 : ¬ i.kind = 17) (h18 : ¬ i.kind = 18) : stepM RF m i = (stepA RF m.c.heap m.x i).map fun x => { m with x := x } := by
 unfold valK at hk
 cases h0 : okS m.x.set (readsF i) with
 | false => rw [step_0 h0, stepA, if_pos h0]; rfl
 | true => rw [stepM, if_neg (by rw [h0]; decide), if_neg (by omega), if_neg (by omega), if_neg (by omega), if_neg h18, if_neg h17, if_neg (by omega)]
end
theorem data_at {l : List UInt8} {j : Nat} (h : j < l.length) : (l.map u8)[j * 1 + 0]? = some (u8 (l.getD j 0)) := by
 rw [Nat.mul_one, Nat.add_zero, List.getElem?_map, List.getElem?_eq_getElem h]
 simp [h]
/-! ### a new process -/
def initM (p : Prog) : Mf := putsN (fun _ => 0) 268435456#64 p.data p.data.length
def newC (p : Prog) (heap : Wd64) (strict : Bool) : Pc := ⟨p, heap, strict, false, 0, 0#64, 0, 0⟩
def newX (p : Prog) : Fr := openFr (p.funs.getD 0 default) 0 [] 0
def newM (p : Prog) (heap : Wd64) (strict : Bool) (w : V.PW) : Mc := ⟨newC p heap strict, newX p, [], initM p, w⟩
theorem pmE {X r : Ent} {E W : St} : (X :: r :: (E ++ W)).Perm (((X :: E) ++ W) ++ [r]) := by
 show (X :: (r :: (E ++ W))).Perm (X :: ((E ++ W) ++ [r]))
 exact ((List.perm_append_singleton r (E ++ W)).symm).cons X
end Go.Proofs.YtpgbpdnmjeoeoaaGreat

namespace Go.Proofs.YtpgbpdnmjeoeoaaGreat
open Go Go.RowKit
section
variable {RF : Int → Wd64 → Wd64 → Wd64} {p : Prog} {m m' : Mc}
theorem backC_prog (c : Pc) (v : Wd64) : (backC c v).prog = c.prog ∧ (backC c v).heap = c.heap ∧ (backC c v).strict = c.strict ∧ (backC c v).steps = c.steps ∧ (backC c v).ent = c.ent := by
 unfold backC; split <;> exact ⟨rfl, rfl, rfl, rfl, rfl⟩
theorem not_ends {k : Int} (h : ¬ (k = 20 ∨ k = 24 ∨ k = 25 ∨ k = 26)) : endsF k = false := by
 unfold endsF
 simp only [Bool.or_eq_false_iff, decide_eq_false_iff_not]
 omega
theorem jmp_next (hp : ProgOk p) (h : FrIn p m.x) (hk : (insOf p m.x).kind = 20 ∨ (insOf p m.x).kind = 21) : FrIn p (jmpF p m.x (insOf p m.x)) := by
 unfold jmpF
 split
 ·refine h.jump hp ?_
  unfold nextF
  rw [nx1_t hk]
  exact List.mem_append_left _ (List.mem_singleton.2 rfl)
 rename_i hj
 refine h.jump hp ?_
 unfold nextF
 have h20 : ¬ (insOf p m.x).kind = 20 := fun e => hj (.inl e)
 rw [if_neg (by rw [not_ends (by omega)]; decide)]
 refine List.mem_append_right _ (List.mem_singleton.2 ?_)
 have := h.a0
 omega
structure Same (c c' : Pc) : Prop where
 prog : c'.prog = c.prog
 heap : c'.heap = c.heap
 strict : c'.strict = c.strict
 ent : c'.ent = c.ent
 steps : c'.steps = c.steps
theorem Same.refl (c : Pc) : Same c c := ⟨rfl, rfl, rfl, rfl, rfl⟩
theorem stepA_frame {heap : Wd64} {x x' : Fr} {i : Ins} (h : stepA RF heap x i = some x') : (x' = goF (putF x i) ∨ x' = goF (setD x i.d (valueF RF heap x i).1)) := by
 unfold stepA at h
 split at h
 ·cases h
 split at h
 ·cases h; exact .inl rfl
 split at h
 ·cases h; exact .inr rfl
 cases h
theorem step_ok (hp : ProgOk p) (hpf : p.funs.length ≤ 1048576) (hm : MOk p m) (h19 : (insOf p m.x).kind ≠ 19) (h : stepM RF m (insOf p m.x) = some m') : MOk p m' ∧ Same m.c m'.c := by
 have hpr := hm.prog
 have io := hm.top.ins hp
 unfold stepM at h
 split at h
 ·cases h
 split at h
 ·rename_i hk
  cases h
  refine ⟨⟨hpr, ?_, hm.bl, ?_, hm.dep⟩, Same.refl _⟩
  ·show FrIn p (jmpF m.c.prog m.x (insOf p m.x))
   rw [hpr]; exact jmp_next hp hm.top hk
  exact hm.ch.top rfl
 split at h
 ·cases h
  unfold backM
  split
  ·rename_i hb
   have := backC_prog m.c (rA m.x (insOf p m.x).a)
   exact ⟨⟨this.1.trans hpr, hm.top, by rw [hb]; exact fun _ q => (by cases q), by rw [hb]; trivial, by rw [hb]; decide⟩, ⟨this.1, this.2.1, this.2.2.1, this.2.2.2.2, this.2.2.2.1⟩⟩
  rename_i y r hb
  have hy := hm.bl y (by rw [hb]; exact List.mem_cons_self ..)
  refine ⟨⟨hpr, hy.setD _ _, fun z hz => hm.bl z (by rw [hb]; exact List.mem_cons_of_mem _ hz), ?_, ?_⟩, Same.refl _⟩
  ·have hc := hm.ch
   rw [hb] at hc
   exact hc.2.top rfl
  have hd := hm.dep
  rw [hb, List.length_cons] at hd
  show r.length < 1048576
  omega
 split at h
 ·rename_i hk
  have hargs : (hasF (insOf p m.x).kind).args = true := by rcases hk with h | h | h | h <;> rw [h] <;> rfl
  have hcin : ∀ f, calleeF m.c.prog m.x (insOf p m.x) = some f → f < p.funs.length ∧ (((insOf p m.x).args.map (rA m.x)).length : Int) = (p.funs.getD f default).params := by
   intro f hf
   rw [hpr] at hf
   unfold calleeF at hf
   rw [List.length_map]
   split at hf
   ·split at hf
    ·cases hf
    ·rename_i hb
     cases hf
     have hb' : badTo p m.x (insOf p m.x) = false := by simpa using hb
     unfold badTo at hb'
     simp only [Bool.or_eq_false_iff, decide_eq_false_iff_not, Bool.not_eq_false', decide_eq_true_eq] at hb'
     have h1 : toN m.x (insOf p m.x) < wI (p.funs.length : Int) := BitVec.not_le.1 hb'.1.2
     rw [BitVec.lt_def] at h1
     have h2 := wI_nat (p.funs.length : Int)
     rw [wrap_u64] at h2
     exact ⟨by omega, by have := hb'.2; omega⟩
   ·rename_i hb
    cases hf
    have hf' : (hasF (insOf p m.x).kind).f = true := by
     rcases hk with h | h | h | h
     ·rw [h]; rfl
     ·exact absurd (.inl h) hb
     ·rw [h]; rfl
     ·exact absurd (.inr h) hb
    have h1 := io.fn hf'
    have h2 := io.par hargs hf'
    unfold parF at h2
    exact ⟨h1.2, h2⟩
  unfold jumpM at h
  cases hc : calleeF m.c.prog m.x (insOf p m.x) with
  | none => rw [hc] at h; cases h
  | some f =>
   rw [hc] at h
   dsimp only at h
   obtain ⟨h1, h2⟩ := hcin f hc
   have hnew : ∀ d, FrIn p (openFr (m.c.prog.funs.getD f default) f (argsF m.x (insOf p m.x)) d) := fun d => by
    rw [hpr]; exact FrIn.open hp h1 h2 d
   split at h
   ·cases h
    exact ⟨⟨hpr, hnew _, hm.bl, hm.ch.top rfl, hm.dep⟩, Same.refl _⟩
   ·rename_i h24
    split at h
    ·cases h
    ·rename_i hmx
     cases h
     have hk2 : (insOf p m.x).kind = 22 ∨ (insOf p m.x).kind = 23 := by omega
     have hd := io.d (by rcases hk2 with h | h <;> rw [h] <;> rfl)
     have hnr : (m.x.nr : Int) = (fnOf p m.x).regs := by
      have h1 := hm.top.fn hp
      have := h1.par0
      have := h1.par2
      rw [hm.top.nr]; omega
     refine ⟨⟨hpr, hnew _, fun z hz => ?_, ⟨?_, ?_⟩, ?_⟩, Same.refl _⟩
     ·rcases List.mem_cons.1 hz with rfl | hz
      ·exact hm.top.call hp (not_ends (by omega)) _
      ·exact hm.bl z hz
     ·show 0 ≤ (insOf p m.x).d ∧ (insOf p m.x).d < (m.x.nr : Int)
      rw [hnr]; exact hd
     ·exact hm.ch.top rfl
     ·show (m.bl.length + 1) < 1048576
      omega
 split at h
 ·rename_i hk
  split at h
  ·cases h
   exact ⟨⟨hpr, hm.top.go hp (not_ends (by omega)), hm.bl, hm.ch.top rfl, hm.dep⟩, Same.refl _⟩
  cases h
 split at h
 ·rename_i hk
  split at h
  ·cases h
   have hg := hm.top.go hp (not_ends (by omega))
   exact ⟨⟨hpr, ⟨hg.f0, hg.f1, hg.nr, hg.ns, goF_ok (setD_ok hm.top.ok _ _), hg.a0, hg.a1⟩, hm.bl, hm.ch.top rfl, hm.dep⟩, Same.refl _⟩
  cases h
 split at h
 ·rename_i hk
  unfold sysM at h
  split at h
  ·cases h
   exact ⟨⟨hpr, hm.top, hm.bl, hm.ch, hm.dep⟩, ⟨rfl, rfl, rfl, rfl, rfl⟩⟩
  cases hr : sysR m (insOf p m.x) with
  | none => rw [hr] at h; cases h
  | some r =>
   rw [hr] at h
   cases h
   have hg := hm.top.go hp (not_ends (by omega))
   exact ⟨⟨hpr, ⟨hg.f0, hg.f1, hg.nr, hg.ns, goF_ok (setD_ok hm.top.ok _ _), hg.a0, hg.a1⟩, hm.bl, hm.ch.top rfl, hm.dep⟩, Same.refl _⟩
 rename_i k1 k2 k3 k4 k5 k6
 cases hA : stepA RF m.c.heap m.x (insOf p m.x) with
 | none => rw [hA] at h; cases h
 | some x' =>
  rw [hA] at h
  cases h
  have hg := hm.top.go hp (not_ends (by omega))
  rcases stepA_frame hA with rfl | rfl
  ·exact ⟨⟨hpr, ⟨hg.f0, hg.f1, hg.nr, hg.ns, goF_ok (putF_ok hm.top.ok _), hg.a0, hg.a1⟩, hm.bl, hm.ch.top rfl, hm.dep⟩, Same.refl _⟩
  ·exact ⟨⟨hpr, ⟨hg.f0, hg.f1, hg.nr, hg.ns, goF_ok (setD_ok hm.top.ok _ _), hg.a0, hg.a1⟩, hm.bl, hm.ch.top rfl, hm.dep⟩, Same.refl _⟩
theorem skip_end {L : List Ins} (hl : (L.getD (L.length - 1) default).kind ≠ 19) : ∀ n a, a < L.length → L.length - a ≤ n → skipL L n a < L.length ∧ (L.getD (skipL L n a) default).kind ≠ 19
 | 0, a, h1, h2 => by omega
 | n + 1, a, h1, h2 => by
  rw [skipL]
  split
  ·rename_i hk
   have : a + 1 < L.length := by
    rcases Nat.lt_or_ge (a + 1) L.length with q | q
    ·exact q
    ·exfalso
     rw [show L.length - 1 = a by omega] at hl
     exact hl hk
   exact skip_end hl n (a + 1) this (by omega)
  ·rename_i hk
   exact ⟨h1, hk⟩
theorem last_not19 {f : Fn} (hf : FnOk p f) : (f.code.getD (f.code.length - 1) default).kind ≠ 19 := by
 intro e
 have h := hf.last
 unfold lastK at h
 rw [e] at h; cases h
theorem adv_in (hp : ProgOk p) {x : Fr} (h : FrIn p x) : FrIn p (advF p x) ∧ (insOf p (advF p x)).kind ≠ 19 := by
 have hs := skip_end (last_not19 (h.fn hp)) _ _ h.a1 (Nat.le_refl _)
 unfold advF
 refine ⟨⟨h.f0, h.f1, h.nr, h.ns, ⟨h.ok.r, h.ok.s, h.ok.t, h.ok.h⟩, Int.natCast_nonneg _, ?_⟩, ?_⟩
 ·show (((skipL _ _ _ : Nat) : Int)).toNat < _
  rw [Int.toNat_natCast]; exact hs.1
 show ((fnOf p x).code.getD (((skipL _ _ _ : Nat) : Int)).toNat default).kind ≠ 19
 rw [Int.toNat_natCast]; exact hs.2
theorem adv_label (hp : ProgOk p) {x : Fr} (h : FrIn p x) (hk : (insOf p x).kind = 19) : advF p (goF x) = advF p x := by
 have h0 := h.a0
 have hlen : (fnOf p x).code.length - x.at_.toNat = ((fnOf p x).code.length - (x.at_ + 1).toNat) + 1 := by
  have := h.more hp (by rw [hk]; rfl)
  omega
 unfold advF
 show ({ (goF x) with at_ := ((skipL (fnOf p x).code ((fnOf p x).code.length - (x.at_ + 1).toNat) (x.at_ + 1).toNat : Nat) : Int) } : Fr) = _
 conv => rhs; rw [hlen, skipL, if_pos (show ((fnOf p x).code.getD x.at_.toNat default).kind = 19 from hk)]
 rw [show (x.at_ + 1).toNat = x.at_.toNat + 1 by omega]
 rfl
theorem adv_not (hp : ProgOk p) {x : Fr} (h : FrIn p x) (hk : (insOf p x).kind ≠ 19) : advF p x = x := by
 have h0 := h.a0
 have h1 := h.a1
 unfold advF
 rw [show (fnOf p x).code.length - x.at_.toNat = ((fnOf p x).code.length - x.at_.toNat - 1) + 1 by omega, skipL, if_neg (show ¬ ((fnOf p x).code.getD x.at_.toNat default).kind = 19 from hk)]
 rw [Int.toNat_of_nonneg h0]
theorem MOk.adv (hp : ProgOk p) (h : MOk p m) : MOk p (advM m) := ⟨h.prog, by show FrIn p (advF m.c.prog m.x); rw [h.prog]; exact (adv_in hp h.top).1, h.bl, h.ch.top rfl, h.dep⟩
theorem MOk.tick (h : MOk p m) : MOk p (tickC m) := ⟨h.prog, h.top, h.bl, h.ch, h.dep⟩
theorem MOk.stuck (h : MOk p m) : MOk p (stuckC m) := ⟨h.prog, h.top, h.bl, h.ch, h.dep⟩
end
end Go.Proofs.YtpgbpdnmjeoeoaaGreat

namespace Go.Proofs.YtpgbpdnmjeoeoaaGreat
open Go Go.RowKit

section
variable {RF : Int → Wd64 → Wd64 → Wd64} {p : Prog} {m m' : Mc}
theorem adv_self (hp : ProgOk p) (hm : MOk p m) (hk : (insOf p m.x).kind ≠ 19) : advM m = m := by
 unfold advM
 rw [hm.prog, adv_not hp hm.top hk]
theorem runM_label (hp : ProgOk p) (hm : MOk p m) (hst : m.c.st = 0) (hk : (insOf p m.x).kind = 19) {n : Nat} (hn : 0 < n) : runM RF n { m with x := goF m.x } = runM RF n m := by
 obtain ⟨k, rfl⟩ : ∃ k, n = k + 1 := ⟨n - 1, by omega⟩
 have e : advM { m with x := goF m.x } = advM m := by
  unfold advM
  dsimp only
  rw [hm.prog, adv_label hp hm.top hk]
 rw [runM, runM, e, if_neg (show ¬ (m.c.st ≠ 0) from fun h => h hst), if_neg (show ¬ (m.c.st ≠ 0) from fun h => h hst)]
theorem runM_step (hp : ProgOk p) (hm : MOk p m) (hst : m.c.st = 0) (hk : (insOf p m.x).kind ≠ 19) {n : Nat} (h : stepM RF m (insOf p m.x) = some m') : runM RF (n + 1) m = runM RF n (tickC m') := by
 rw [runM, if_neg (fun h => h hst), adv_self hp hm hk, hm.prog, h]
theorem runM_stuck (hp : ProgOk p) (hm : MOk p m) (hst : m.c.st = 0) (hk : (insOf p m.x).kind ≠ 19) {n : Nat} (h : stepM RF m (insOf p m.x) = none) : runM RF (n + 1) m = stuckC m := by
 rw [runM, if_neg (fun h => h hst), adv_self hp hm hk, hm.prog, h]
end
theorem idxB {n k j len : Nat} (h : n = len * (k + 1)) (hj : j < len) : j * (k + 1) < n := by
 subst h; exact Nat.mul_lt_mul_of_pos_right hj (Nat.succ_pos k)
theorem toTen0 {A C : St} {x : Ent} : (A ++ (x :: C)).Perm ((A ++ C) ++ [x]) := by
 rw [List.append_assoc]
 exact ((List.perm_append_singleton x C).symm).append_left A
theorem toEnd {A C : St} {x : Ent} : ((A ++ C) ++ [x]).Perm (A ++ (x :: C)) := toTen0.symm

end Go.Proofs.YtpgbpdnmjeoeoaaGreat

namespace Go.Proofs.YtpgbpdnmjeoeoaaGreat
open Go Go.RowKit

theorem ofInt_lt (z : Int) : floatOfInt .f64 z < 18446744073709551616 := write64 (.number (z < 0) z.natAbs 0)
def outF (k : Int) (a b : Wd64) : Option Nat :=
 if k = 1 then fopF .add a.toNat b.toNat else if k = 2 then fopF .sub a.toNat b.toNat else if k = 3 then fopF .mul a.toNat b.toNat else if k = 4 then fopF .quo a.toNat b.toNat else some (floatOfInt .f64 (sI a))
def realF (k : Int) (a b : Wd64) : Wd64 :=
 if k = 5 then truthF (Ieee.double.order a.toNat b.toNat == some .lt)
 else if k = 6 then truthF (Ieee.double.order a.toNat b.toNat == some .lt || Ieee.double.order a.toNat b.toNat == some .eq)
 else if k = 7 then truthF (Ieee.double.order a.toNat b.toNat == some .eq)
 else frF (outF k a b)

end Go.Proofs.YtpgbpdnmjeoeoaaGreat

namespace Go.Proofs.YtpgbpdnmjeoeoaaGreat
open Go Go.RowKit

set_option maxHeartbeats 400000 in
theorem DHolds68 (c : Int) (a b : Wd64) :
    ACalls Tryz.prog 67 [zi c, zw a, zw b] [] (fun t S => t = bv (holdsF c a b)) := by
 refine ACalls.intro Tryz.func67 rfl Tryz.ntmps67 nB rfl fun X w0 => ?_
 refine ra ?_
 refine AW.seq ?_
 refine rs (ym (nl ?_))
 refine AW.block ?_
 refine rs (Y1 (Yv.eql rfl eV eV) ?_)
 refine ya ?_
 refine AW.cond rfl (fun h0t => ?_) (fun h0f => ?_)
 ·try replace h0t := odt h0t
  refine rs (ym ?_)
  refine ym ?_
  refine Y1 (Yv.eqlW rfl eV eV) ?_
  refine ya ?_
  refine AW.ret (retI (.tmp rfl .nil) ?_)
  rw [holdsF, if_pos (by omega)]
  rfl
 try replace h0f := odf h0f
 refine rs (Y1 (Yv.eql rfl eV eV) ?_)
 refine ya ?_
 refine AW.cond rfl (fun h1t => ?_) (fun h1f => ?_)
 ·try replace h1t := odt h1t
  refine rs (ym ?_)
  refine ym ?_
  refine Y1 (Yv.neqW rfl eV eV) ?_
  refine ya ?_
  refine AW.ret (retI (.tmp rfl .nil) ?_)
  rw [holdsF, if_neg (by omega), if_pos (by omega)]
  rfl
 try replace h1f := odf h1f
 refine rs (Y1 (Yv.eql rfl eV eV) ?_)
 refine ya ?_
 refine AW.cond rfl (fun h2t => ?_) (fun h2f => ?_)
 ·try replace h2t := odt h2t
  refine rs (ym ?_)
  refine Y1 (Yv.conv rfl Tryz.underlying22 kd_2 eV) ?_
  refine ym ?_
  refine Y1 (Yv.conv rfl Tryz.underlying22 kd_2 eV) ?_
  refine Y1 (Yv.lss rfl eV eV) ?_
  refine ya ?_
  refine AW.ret (retI (.tmp rfl .nil) ?_)
  rw [holdsF, if_neg (by omega), if_neg (by omega), if_pos (by omega)]
  rfl
 try replace h2f := odf h2f
 refine rs (Y1 (Yv.eql rfl eV eV) ?_)
 refine ya ?_
 refine AW.cond rfl (fun h3t => ?_) (fun h3f => ?_)
 ·try replace h3t := odt h3t
  refine rs (ym ?_)
  refine Y1 (Yv.conv rfl Tryz.underlying22 kd_2 eV) ?_
  refine ym ?_
  refine Y1 (Yv.conv rfl Tryz.underlying22 kd_2 eV) ?_
  refine Y1 (Yv.leq rfl eV eV) ?_
  refine ya ?_
  refine AW.ret (retI (.tmp rfl .nil) ?_)
  rw [holdsF, if_neg (by omega), if_neg (by omega), if_neg (by omega), if_pos (by omega)]
  rfl
 try replace h3f := odf h3f
 refine rs (Y1 (Yv.eql rfl eV eV) ?_)
 refine ya ?_
 refine AW.cond rfl (fun h4t => ?_) (fun h4f => ?_)
 ·try replace h4t := odt h4t
  refine rs (ym ?_)
  refine ym ?_
  refine Y1 (Yv.lssW rfl eV eV) ?_
  refine ya ?_
  refine AW.ret (retI (.tmp rfl .nil) ?_)
  rw [holdsF, if_neg (by omega), if_neg (by omega), if_neg (by omega), if_neg (by omega), if_pos (by omega)]
  rfl
 try replace h4f := odf h4f
 refine AW.skip ?_
 refine rs (ym ?_)
 refine ym ?_
 refine Y1 (Yv.leqW rfl eV eV) ?_
 refine ya ?_
 refine AW.ret (retI (.tmp rfl .nil) ?_)
 rw [holdsF, if_neg (by omega), if_neg (by omega), if_neg (by omega), if_neg (by omega), if_neg (by omega)]
 rfl

set_option maxHeartbeats 400000 in
theorem Dnumber95 (b : Bool) :
    ACalls Tryz.prog 130 [bv b] [] (fun t S => t = zw (truthF b)) := by
 refine ACalls.intro Tryz.func130 rfl Tryz.ntmps130 nB rfl fun X w0 => ?_
 refine ra ?_
 refine AW.seq ?_
 refine rs (ym (nl ?_))
 refine AW.cond rfl (fun h0t => ?_) (fun h0f => ?_)
 ·try replace h0t := odt h0t
  refine ra ?_
  refine AW.ret (retI (.tmp rfl .nil) ?_)
  rw [truthF, if_pos h0t]; rfl
 try replace h0f := odf h0f
 refine AW.skip ?_
 refine ra ?_
 refine AW.ret (retI (.tmp rfl .nil) ?_)
 rw [truthF, if_neg (by rw [h0f]; decide)]; rfl

theorem mod32 (x : Wd64) : x % 4294967296#64 = x &&& 4294967295#64 := by
 apply BitVec.eq_of_toNat_eq
 rw [BitVec.toNat_umod, BitVec.toNat_and]
 show x.toNat % 2 ^ 32 = x.toNat &&& (2 ^ 32 - 1)
 exact (Nat.and_two_pow_sub_one_eq_mod _ _).symm
theorem wide_eq (a b : Wd64) : (a >>> 32) * (b >>> 32) + (((a >>> 32) * (b % 4294967296#64) + (((a % 4294967296#64) * (b % 4294967296#64)) >>> 32)) >>> 32) + (((a % 4294967296#64) * (b >>> 32) + ((a >>> 32) * (b % 4294967296#64) + (((a % 4294967296#64) * (b % 4294967296#64)) >>> 32)) % 4294967296#64) >>> 32) = hiF a b := by
 unfold hiF
 rw [mod32 a, mod32 b, mod32, BitVec.add_comm ((a &&& 4294967295#64) * (b >>> 32))]
set_option maxHeartbeats 400000 in
theorem DWide94 (a b : Wd64) :
    ACalls Tryz.prog 129 [zw a, zw b] [] (fun t S => t = .tup [zw (hiF a b), zw (a * b)]) := by
 refine ACalls.intro Tryz.func129 rfl Tryz.ntmps129 nB rfl fun X w0 => ?_
 refine rs (Y1 (Yv.assign rfl eV) ?_)
 refine ya ?_
 refine rs (ym ?_)
 refine Y1 (Yv.shrW (n := 32) rfl (E rfl rfl) (E rfl rfl) (by decide)) ?_
 refine ya ?_
 refine rs (ym ?_)
 refine Y1 (Yv.remW (b := 4294967296#64) rfl (E rfl rfl) (E rfl rfl) (by decide)) ?_
 refine ya ?_
 refine rs (ym ?_)
 refine Y1 (Yv.shrW (n := 32) rfl (E rfl rfl) (E rfl rfl) (by decide)) ?_
 refine ya ?_
 refine rs (ym ?_)
 refine Y1 (Yv.remW (b := 4294967296#64) rfl (E rfl rfl) (E rfl rfl) (by decide)) ?_
 refine ya ?_
 refine rs (ym ?_)
 refine ym ?_
 refine Y1 (Yv.mulW rfl eV eV) ?_
 refine ya ?_
 refine rs (ym ?_)
 refine ym ?_
 refine Y1 (Yv.mulW rfl eV eV) ?_
 refine ym ?_
 refine Y1 (Yv.shrW (n := 32) rfl (E rfl rfl) (E rfl rfl) (by decide)) ?_
 refine Y1 (Yv.addW rfl eV eV) ?_
 refine ya ?_
 refine rs (ym ?_)
 refine ym ?_
 refine Y1 (Yv.mulW rfl eV eV) ?_
 refine ym ?_
 refine Y1 (Yv.remW (b := 4294967296#64) rfl (E rfl rfl) (E rfl rfl) (by decide)) ?_
 refine Y1 (Yv.addW rfl eV eV) ?_
 refine ya ?_
 refine rs (ym ?_)
 refine ym ?_
 refine Y1 (Yv.mulW rfl eV eV) ?_
 refine ym ?_
 refine Y1 (Yv.shrW (n := 32) rfl (E rfl rfl) (E rfl rfl) (by decide)) ?_
 refine Y1 (Yv.addW rfl eV eV) ?_
 refine ym ?_
 refine Y1 (Yv.shrW (n := 32) rfl (E rfl rfl) (E rfl rfl) (by decide)) ?_
 refine Y1 (Yv.addW rfl eV eV) ?_
 refine ym ?_
 refine ym ?_
 refine Y1 (Yv.mulW rfl eV eV) ?_
 refine Y1 (Yv.assign rfl eV) ?_
 refine ya ?_
 refine AW.ret (retI (.tmp rfl (.tmp rfl .nil)) ?_)
 exact congrArg (fun u => T.tup [zw u, zw (a * b)]) (wide_eq a b)

set_option maxHeartbeats 400000 in
theorem DBits111 (q : Option Nat) (r : Nat) (hr : FOut q r) :
    ACalls Tryz.prog 141 [zf r] [] (fun t S => t = zw (frF q)) := by
 refine ACalls.intro Tryz.func141 rfl Tryz.ntmps141 nB rfl fun X w0 => ?_
 refine ra ?_
 refine AW.seq ?_
 refine rs (ym ?_)
 refine ym ?_
 refine Y1 (Yv.fNeq rfl eV eV) (nl ?_)
 refine AW.cond rfl (fun h0t => ?_) (fun h0f => ?_)
 ·try replace h0t := odt h0t
  refine ra ?_
  refine AW.ret (retI (.tmp rfl .nil) ?_)
  rw [fr_nan hr h0t]
  rfl
 try replace h0f := odf h0f
 refine AW.skip ?_
 refine rs (ym ?_)
 refine Y1 (Yv.toBits Tryz.func143 (by kernel_rfl) (by kernel_rfl) (by kernel_rfl) (by kernel_rfl) rfl eV eV (FOut.lt (by assumption))) ?_
 refine ya ?_
 refine AW.ret (retI (.tmp rfl .nil) ?_)
 rw [fr_num hr h0f]
 rfl

set_option maxHeartbeats 4000000 in
theorem DReal96 (k : Int) (a b : Wd64) (h0 : 1 ≤ k) (h1 : k ≤ 8) :
    ACalls Tryz.prog 131 [zi k, zw a, zw b] [] (fun t S => t = zw (realF k a b)) := by
 refine ACalls.intro Tryz.func131 rfl Tryz.ntmps131 nB rfl fun X w0 => ?_
 refine ra ?_
 refine rs (ym ?_)
 refine Y1 (Yv.fromBits Tryz.func140 (by kernel_rfl) (by kernel_rfl) (by kernel_rfl) (by kernel_rfl) rfl eV eV) ?_
 refine ya ?_
 refine rs (ym ?_)
 refine Y1 (Yv.fromBits Tryz.func140 (by kernel_rfl) (by kernel_rfl) (by kernel_rfl) (by kernel_rfl) rfl eV eV) ?_
 refine ya ?_
 refine AW.seq ?_
 refine rs (ym (nl ?_))
 refine AW.block ?_
 refine rs (Y1 (Yv.eql rfl eV eV) ?_)
 refine ya ?_
 refine AW.cond rfl (fun h0t => ?_) (fun h0f => ?_)
 ·try replace h0t := odt h0t
  refine rs (ym ?_)
  refine ym ?_
  refine AWL.fArith (by simp) rfl rfl (B rfl) rfl (E rfl rfl) (E rfl rfl) (fun r18 hr18 => ?_)
  refine AWL.callT rfl rfl (B rfl) rfl ce_141 (E rfl rfl) (evsC (E rfl rfl) evs0) (DBits111 (fopF .add a.toNat b.toNat) r18 (by assumption)) ?_
  rintro t19 S19 rfl
  refine ya ?_
  refine AW.ret (retI (.tmp rfl .nil) ?_)
  rw [realF, if_neg (by omega), if_neg (by omega), if_neg (by omega), outF, if_pos (by omega)]
  rfl
 try replace h0f := odf h0f
 refine rs (Y1 (Yv.eql rfl eV eV) ?_)
 refine ya ?_
 refine AW.cond rfl (fun h1t => ?_) (fun h1f => ?_)
 ·try replace h1t := odt h1t
  refine rs (ym ?_)
  refine ym ?_
  refine AWL.fArith (by simp) rfl rfl (B rfl) rfl (E rfl rfl) (E rfl rfl) (fun r24 hr24 => ?_)
  refine AWL.callT rfl rfl (B rfl) rfl ce_141 (E rfl rfl) (evsC (E rfl rfl) evs0) (DBits111 (fopF .sub a.toNat b.toNat) r24 (by assumption)) ?_
  rintro t25 S25 rfl
  refine ya ?_
  refine AW.ret (retI (.tmp rfl .nil) ?_)
  rw [realF, if_neg (by omega), if_neg (by omega), if_neg (by omega), outF, if_neg (by omega), if_pos (by omega)]
  rfl
 try replace h1f := odf h1f
 refine rs (Y1 (Yv.eql rfl eV eV) ?_)
 refine ya ?_
 refine AW.cond rfl (fun h2t => ?_) (fun h2f => ?_)
 ·try replace h2t := odt h2t
  refine rs (ym ?_)
  refine ym ?_
  refine AWL.fArith (by simp) rfl rfl (B rfl) rfl (E rfl rfl) (E rfl rfl) (fun r30 hr30 => ?_)
  refine AWL.callT rfl rfl (B rfl) rfl ce_141 (E rfl rfl) (evsC (E rfl rfl) evs0) (DBits111 (fopF .mul a.toNat b.toNat) r30 (by assumption)) ?_
  rintro t31 S31 rfl
  refine ya ?_
  refine AW.ret (retI (.tmp rfl .nil) ?_)
  rw [realF, if_neg (by omega), if_neg (by omega), if_neg (by omega), outF, if_neg (by omega), if_neg (by omega), if_pos (by omega)]
  rfl
 try replace h2f := odf h2f
 refine rs (Y1 (Yv.eql rfl eV eV) ?_)
 refine ya ?_
 refine AW.cond rfl (fun h3t => ?_) (fun h3f => ?_)
 ·try replace h3t := odt h3t
  refine rs (ym ?_)
  refine ym ?_
  refine AWL.fArith (by simp) rfl rfl (B rfl) rfl (E rfl rfl) (E rfl rfl) (fun r36 hr36 => ?_)
  refine AWL.callT rfl rfl (B rfl) rfl ce_141 (E rfl rfl) (evsC (E rfl rfl) evs0) (DBits111 (fopF .quo a.toNat b.toNat) r36 (by assumption)) ?_
  rintro t37 S37 rfl
  refine ya ?_
  refine AW.ret (retI (.tmp rfl .nil) ?_)
  rw [realF, if_neg (by omega), if_neg (by omega), if_neg (by omega), outF, if_neg (by omega), if_neg (by omega), if_neg (by omega), if_pos (by omega)]
  rfl
 try replace h3f := odf h3f
 refine rs (Y1 (Yv.eql rfl eV eV) ?_)
 refine ya ?_
 refine AW.cond rfl (fun h4t => ?_) (fun h4f => ?_)
 ·try replace h4t := odt h4t
  refine rs (ym ?_)
  refine ym ?_
  refine Y1 (Yv.fLss rfl eV eV) ?_
  refine AWL.callT rfl rfl (B rfl) rfl ce_130 (E rfl rfl) (evsC (E rfl rfl) evs0) (Dnumber95 (Ieee.double.order a.toNat b.toNat == some .lt)) ?_
  rintro t43 S43 rfl
  refine ya ?_
  refine AW.ret (retI (.tmp rfl .nil) ?_)
  rw [realF, if_pos (by omega)]
  rfl
 try replace h4f := odf h4f
 refine rs (Y1 (Yv.eql rfl eV eV) ?_)
 refine ya ?_
 refine AW.cond rfl (fun h5t => ?_) (fun h5f => ?_)
 ·try replace h5t := odt h5t
  refine rs (ym ?_)
  refine ym ?_
  refine Y1 (Yv.fLeq rfl eV eV) ?_
  refine AWL.callT rfl rfl (B rfl) rfl ce_130 (E rfl rfl) (evsC (E rfl rfl) evs0) (Dnumber95 ((Ieee.double.order a.toNat b.toNat == some .lt || Ieee.double.order a.toNat b.toNat == some .eq))) ?_
  rintro t49 S49 rfl
  refine ya ?_
  refine AW.ret (retI (.tmp rfl .nil) ?_)
  rw [realF, if_neg (by omega), if_pos (by omega)]
  rfl
 try replace h5f := odf h5f
 refine rs (Y1 (Yv.eql rfl eV eV) ?_)
 refine ya ?_
 refine AW.cond rfl (fun h6t => ?_) (fun h6f => ?_)
 ·try replace h6t := odt h6t
  refine rs (ym ?_)
  refine ym ?_
  refine Y1 (Yv.fEql rfl eV eV) ?_
  refine AWL.callT rfl rfl (B rfl) rfl ce_130 (E rfl rfl) (evsC (E rfl rfl) evs0) (Dnumber95 (Ieee.double.order a.toNat b.toNat == some .eq)) ?_
  rintro t55 S55 rfl
  refine ya ?_
  refine AW.ret (retI (.tmp rfl .nil) ?_)
  rw [realF, if_neg (by omega), if_neg (by omega), if_pos (by omega)]
  rfl
 try replace h6f := odf h6f
 refine AW.skip ?_
 refine rs (ym ?_)
 refine Y1 (Yv.conv rfl Tryz.underlying22 kd_2 eV) ?_
 refine Y1 (Yv.convIF rfl (by kernel_rfl) Tryz.underlying181 eV) ?_
 refine AWL.callT rfl rfl (B rfl) rfl ce_141 (E rfl rfl) (evsC (E rfl rfl) evs0) (DBits111 (some (floatOfInt .f64 (sI a))) _ ⟨rfl, ofInt_lt _⟩) ?_
 rintro t59 S59 rfl
 refine ya ?_
 refine AW.ret (retI (.tmp rfl .nil) ?_)
 rw [realF, if_neg (by omega), if_neg (by omega), if_neg (by omega), outF, if_neg (by omega), if_neg (by omega), if_neg (by omega), if_neg (by omega)]
 rfl

end Go.Proofs.YtpgbpdnmjeoeoaaGreat

namespace Go.Proofs.YtpgbpdnmjeoeoaaGreat
open Go Go.RowKit
def frD (x : Fr) (a : FA) : List T := [zi x.f, zi x.at_, .v (.slice a.r x.nr x.nr), .v (.slice a.t x.nr x.nr), .v (.slice a.s x.ns x.ns), .v (.slice a.h x.ns x.ns), zi x.d]
def frE (x : Fr) (a : FA) : St := [.row a.r x.nr x.nr 22 1 (x.r.map zw), .row a.t x.nr x.nr 4 1 (x.set.map bv), .row a.s x.ns x.ns 22 1 (x.slot.map zw), .row a.h x.ns x.ns 4 1 (x.there.map bv)]
theorem frD_len (x : Fr) (a : FA) : (frD x a).length = 7 := rfl
section
variable {pre : List T} {x : Fr} {a : FA}
theorem fd_at (i : Nat) : (pre ++ frD x a)[pre.length + i]? = (frD x a)[i]? := by rw [List.getElem?_append_right (by omega), Nat.add_sub_cancel_left]
theorem fd0 : (pre ++ frD x a)[pre.length + 0]? = some (zi x.f) := fd_at 0
theorem fd1 : (pre ++ frD x a)[pre.length + 1]? = some (zi x.at_) := fd_at 1
theorem fd2 : (pre ++ frD x a)[pre.length + 2]? = some (.v (.slice a.r x.nr x.nr)) := fd_at 2
theorem fd3 : (pre ++ frD x a)[pre.length + 3]? = some (.v (.slice a.t x.nr x.nr)) := fd_at 3
theorem fd4 : (pre ++ frD x a)[pre.length + 4]? = some (.v (.slice a.s x.ns x.ns)) := fd_at 4
theorem fd5 : (pre ++ frD x a)[pre.length + 5]? = some (.v (.slice a.h x.ns x.ns)) := fd_at 5
theorem fd6 : (pre ++ frD x a)[pre.length + 6]? = some (zi x.d) := fd_at 6
theorem fd_len : (pre ++ frD x a).length = pre.length + 7 := by rw [List.length_append]; rfl
theorem fd_set (i : Nat) (t : T) : (pre ++ frD x a).set (pre.length + i) t = pre ++ (frD x a).set i t := by
 rw [List.set_append_right _ _ (by omega), Nat.add_sub_cancel_left]
theorem fd_jump (z : Int) : (pre ++ frD x a).set (pre.length + 1) (zi z) = pre ++ frD { x with at_ := z } a := fd_set 1 _
end
theorem setE_rows (x : Fr) (a : FA) (d : Int) (v : Wd64) : frE (setD x d v) a = [.row a.r x.nr x.nr 22 1 ((x.r.map zw).set (d.toNat * 1) (zw v)), .row a.t x.nr x.nr 4 1 ((x.set.map bv).set (d.toNat * 1) (bv true)), .row a.s x.ns x.ns 22 1 (x.slot.map zw), .row a.h x.ns x.ns 4 1 (x.there.map bv)] := by
 unfold frE setD
 rw [Nat.mul_one, ← List.map_set, ← List.map_set]
theorem putE_rows (x : Fr) (a : FA) (i : Ins) : frE (putF x i) a = [.row a.r x.nr x.nr 22 1 (x.r.map zw), .row a.t x.nr x.nr 4 1 (x.set.map bv), .row a.s x.ns x.ns 22 1 ((x.slot.map zw).set (i.imm.toNat * 1) (zw (rA x i.a))), .row a.h x.ns x.ns 4 1 ((x.there.map bv).set (i.imm.toNat * 1) (bv true))] := by
 unfold frE putF
 rw [Nat.mul_one, ← List.map_set, ← List.map_set]
theorem top6D {pre : List T} {y x : Fr} {b a : FA} {k : Nat} (h : pre.length = k * 7) : (pre ++ frD y b ++ frD x a)[(k + 1) * 7 + 6]? = some (zi x.d) := by
 have h2 : (pre ++ frD y b).length = (k + 1) * 7 := by rw [List.length_append, h, frD_len]; omega
 rw [← h2]; exact fd6
theorem take_topD {pre : List T} {y x : Fr} {b a : FA} {k : Nat} (h : pre.length = k * 7) : (pre ++ frD y b ++ frD x a).take ((k + 1) * 7) = pre ++ frD y b := by
 rw [List.take_left' (by rw [List.length_append, h, frD_len]; omega)]
end Go.Proofs.YtpgbpdnmjeoeoaaGreat

namespace Go.Proofs.YtpgbpdnmjeoeoaaGreat
open Go Go.RowKit

set_option maxHeartbeats 8000000 in
theorem Dopen43_ (s : Nat) (x : PS) (ob : Bool) (fi : Nat) (args : List Wd64) (d : Int) (C : Option Addr) (n c : Nat) (cs : List T) (R K : Nat) (hf : fi < x.prog.funs.length) (hpf : x.prog.funs.length ≤ 1048576) (hR : (x.prog.funs.getD fi default).regs = (R : Int)) (hK : (x.prog.funs.getD fi default).slots = (K : Int)) (hR1 : R ≤ 65536) (hK1 : K ≤ 1048576) (ha : args.length ≤ R) (hn : n ≤ 1048576) :
    ACalls Tryz.prog 40 [pv s, .v (.int .i64 (fi : Int)), .sl 1 (args.map zw), zi d] [.box s 75 (psD x ob (.v (.slice C n c))), .row C n c 116 7 cs] (fun t S => t = .tup [] ∧ ∃ g c' a, S = [.box s 75 (psD x ob (.v (.slice (some ⟨g, 0, none⟩) (n + 1) c'))), .row (some ⟨g, 0, none⟩) (n + 1) c' 116 7 (cs ++ frD ⟨fi, 0, R, K, rJ args R args.length, List.replicate K 0#64, sJ R args.length, List.replicate K false, d⟩ a)] ++ frE ⟨fi, 0, R, K, rJ args R args.length, List.replicate K 0#64, sJ R args.length, List.replicate K false, d⟩ a) := by
 have hpR : Pin (zi (x.prog.funs.getD fi default).regs) (.int .i64 (R : Int)) := by rw [hR]; exact pinV
 have hpK : Pin (zi (x.prog.funs.getD fi default).slots) (.int .i64 (K : Int)) := by rw [hK]; exact pinV
 refine ACalls.intro Tryz.func40 rfl Tryz.ntmps40 nB rfl fun X w0 => ?_
 refine rs (ym ?_)
 refine Y1 (Yv.nilChk rfl eV) ?_
 refine yf fo_75_0 ?_
 refine yf fo_56_0 ?_
 refine yl ag_53 0 ?_
 refine ym ?_
 refine Y1 (Yv.indexSl rfl ss_53 (B rfl) eV eV (fun hg => ⟨rfl, (by first | omega | (simp only [len_code, len_funs, len_args, len_data, len_zw]; omega))⟩)) ?_
 refine Y1 (Yv.loadRpA rfl ag_93 eV (fun hg => fn_cells (by omega))) ?_
 refine AWL.allocOp rfl rfl (B rfl) rfl zc_93 (fun b8 => ?_)
 refine AWL.storeBox (i := 2) rfl rfl rfl ag_93 rfl (E rfl rfl) (E rfl rfl) rfl rfl nB (nl ?_)
 refine AW.rseqH (HeldCs [(b8, 2, Value.int .i64 (R : Int)), (b8, 3, Value.int .i64 (K : Int))]) rfl (tells_cs (tcB 2 rfl rfl hpR (tcB 2 rfl rfl hpK tc0))) ?_
 refine AWH.tkN (i := 0) rfl (by kernel_rfl) (by kernel_rfl) (by kernel_rfl) rfl rfl (B rfl) (freeMove rfl (E rfl rfl)) ?_
 refine AWH.tkN (i := 1) rfl (by kernel_rfl) (by kernel_rfl) (by kernel_rfl) rfl rfl (B rfl) (freeMove rfl (E rfl rfl)) ?_
 refine AWH.tkN (i := 2) rfl (by kernel_rfl) (by kernel_rfl) (by kernel_rfl) rfl rfl (B rfl) (freeField rfl fo_93_2 (E rfl rfl)) ?_
 refine T2 (i := 3) rfl (heldB 0 rfl ag_3 (E rfl rfl) rfl (fun _ _ => .v _)) ?_
 refine AWH.tkN (i := 5) rfl (by kernel_rfl) (by kernel_rfl) (by kernel_rfl) rfl rfl (B rfl) (freeField rfl fo_93_2 (E rfl rfl)) ?_
 refine T2 (i := 6) rfl (heldB 0 rfl ag_3 (E rfl rfl) rfl (fun _ _ => .v _)) ?_
 refine AWH.tkN (i := 8) rfl (by kernel_rfl) (by kernel_rfl) (by kernel_rfl) rfl rfl (B rfl) (freeField rfl fo_93_3 (E rfl rfl)) ?_
 refine T2 (i := 9) rfl (heldB 1 rfl ag_3 (E rfl rfl) rfl (fun _ _ => .v _)) ?_
 refine AWH.tkN (i := 11) rfl (by kernel_rfl) (by kernel_rfl) (by kernel_rfl) rfl rfl (B rfl) (freeField rfl fo_93_3 (E rfl rfl)) ?_
 refine T2 (i := 12) rfl (heldB 1 rfl ag_3 (E rfl rfl) rfl (fun _ _ => .v _)) ?_
 refine AWH.free [⟨4, some 23, [], [4], (fun l => .v (.slice (l.getD 0 default).1 R R)), (fun _ => True)⟩, ⟨7, some 26, [], [7], (fun l => .v (.slice (l.getD 0 default).1 R R)), (fun _ => True)⟩, ⟨10, some 29, [], [10], (fun l => .v (.slice (l.getD 0 default).1 K K)), (fun _ => True)⟩, ⟨13, some 32, [], [13], (fun l => .v (.slice (l.getD 0 default).1 K K)), (fun _ => True)⟩, ⟨14, some 33, [4, 7, 10, 13], [4, 7, 10, 13], (fun l => .agg (frD ⟨fi, 0, R, K, rJ args R 0, List.replicate K 0#64, sJ R 0, List.replicate K false, d⟩ ⟨(l.getD 0 default).1, (l.getD 2 default).1, (l.getD 1 default).1, (l.getD 3 default).1⟩)), (fun _ => True)⟩, ⟨15, some 9, [], [15], (fun l => .v (.pointer (some ⟨(l.getD 0 default).2, 0, none⟩))), (fun _ => True)⟩, ⟨16, none, [4, 7, 10, 13, 14, 15], [], (fun _ => .v (.bool false)), (fun _ => True)⟩] [⟨4, [4], (fun l => .row (l.getD 0 default).1 R R 22 1 ((rJ args R 0).map zw)), 999, [4], (fun l => .row (l.getD 0 default).1 R R 22 1 ((rJ args R 0).map zw))⟩, ⟨7, [7], (fun l => .row (l.getD 0 default).1 R R 4 1 ((sJ R 0).map bv)), 999, [7], (fun l => .row (l.getD 0 default).1 R R 4 1 ((sJ R 0).map bv))⟩, ⟨10, [10], (fun l => .row (l.getD 0 default).1 K K 22 1 ((List.replicate K 0#64).map zw)), 999, [10], (fun l => .row (l.getD 0 default).1 K K 22 1 ((List.replicate K 0#64).map zw))⟩, ⟨13, [13], (fun l => .row (l.getD 0 default).1 K K 4 1 ((List.replicate K false).map bv)), 999, [13], (fun l => .row (l.getD 0 default).1 K K 4 1 ((List.replicate K false).map bv))⟩, ⟨15, [15], (fun l => .box (l.getD 0 default).2 116 [zi 0, zi 0, nilT, nilT, nilT, nilT, zi 0]), 16, [4, 7, 10, 13, 15], (fun l => .box (l.getD 4 default).2 116 (frD ⟨fi, 0, R, K, rJ args R 0, List.replicate K 0#64, sJ R 0, List.replicate K false, d⟩ ⟨(l.getD 0 default).1, (l.getD 2 default).1, (l.getD 1 default).1, (l.getD 3 default).1⟩))⟩] 0 #[true, true, true, true, true, true, true, true, true, true, true, true, true, true, true, true, true] (ι := Option Addr × Option Addr × Option Addr × Option Addr × Nat) (fun ⟨A23, A26, A29, A32, b9⟩ => [(9, true, pv b9), (0, true, pv s), (1, true, .v (.int .i64 (fi : Int))), (2, true, .sl 1 (args.map zw)), (3, true, zi d), (8, true, pv b8)]) (fun ⟨A23, A26, A29, A32, b9⟩ => (.row A23 R R 22 1 ((rJ args R 0).map zw) :: .row A26 R R 4 1 ((sJ R 0).map bv) :: .row A29 K K 22 1 ((List.replicate K 0#64).map zw) :: .row A32 K K 4 1 ((List.replicate K false).map bv) :: .box b9 116 (frD ⟨fi, 0, R, K, rJ args R 0, List.replicate K 0#64, sJ R 0, List.replicate K false, d⟩ ⟨A23, A29, A26, A32⟩) :: .box s 75 (psD x ob (.v (.slice C n c))) :: .row C n c 116 7 cs :: .box b8 93 (fnCells (x.prog.funs.getD fi default)) :: [])) (fun ⟨A23, A26, A29, A32, b9⟩ => True) rfl (by kernel_rfl) (by kernel_rfl) (tcB 2 rfl rfl hpR (tcB 2 rfl rfl hpK tc0)) ?_ ?_ ?_
 ·refine obC rfl (fun γ env X hS hv => ?_) ?_
  ·refine AWL.makeRow (n := R) (c := R) rfl rfl (B rfl) rfl el_32 (Es hS (E rfl rfl)) (Es hS (E rfl rfl)) (Nat.le_refl _) (by omega) (by unfold maxLen; omega) (fun A23 => ?_)
   refine AWL.eqLast (zero_r args R) ?_
   exact AWL.nil (frA (A23, 0) trivial rfl (List.perm_append_singleton _ _))
  refine obC rfl (fun γ env X hS hv => ?_) ?_
  ·refine AWL.makeRow (n := R) (c := R) rfl rfl (B rfl) rfl el_114 (Es hS (E rfl rfl)) (Es hS (E rfl rfl)) (Nat.le_refl _) (by omega) (by unfold maxLen; omega) (fun A26 => ?_)
   refine AWL.eqLast (zero_s R) ?_
   exact AWL.nil (frA (A26, 0) trivial rfl (List.perm_append_singleton _ _))
  refine obC rfl (fun γ env X hS hv => ?_) ?_
  ·refine AWL.makeRow (n := K) (c := K) rfl rfl (B rfl) rfl el_32 (Es hS (E rfl rfl)) (Es hS (E rfl rfl)) (Nat.le_refl _) (by omega) (by unfold maxLen; omega) (fun A29 => ?_)
   refine AWL.eqLast (mk_zero K) ?_
   exact AWL.nil (frA (A29, 0) trivial rfl (List.perm_append_singleton _ _))
  refine obC rfl (fun γ env X hS hv => ?_) ?_
  ·refine AWL.makeRow (n := K) (c := K) rfl rfl (B rfl) rfl el_114 (Es hS (E rfl rfl)) (Es hS (E rfl rfl)) (Nat.le_refl _) (by omega) (by unfold maxLen; omega) (fun A32 => ?_)
   refine AWL.eqLast (zero_b K) ?_
   exact AWL.nil (frA (A32, 0) trivial rfl (List.perm_append_singleton _ _))
  refine obC rfl (fun γ env X hS hv => ?_) ?_
  ·refine Y1 (Yv.buildS rfl sh_116 (evpC (Es hS eV) (evpC (Es hS eV) (evpC (Es hS eV) (evpC (Es hS eV) (evpC (Es hS eV) (evpC (Es hS eV) evp0)))))) (fun _ => rfl)) ?_
   exact AWL.nil (frA (none, 0) trivial rfl (.refl _))
  refine obC rfl (fun γ env X hS hv => ?_) ?_
  ·refine AWL.allocOp rfl rfl (B rfl) rfl zc_116 (fun b9 => ?_)
   exact AWL.nil (frA (none, b9) trivial rfl (List.perm_append_singleton _ _))
  refine obC rfl (fun γ env X hS hv => ?_) ?_
  ·refine AWL.storeBox (i := 0) rfl rfl rfl ag_116 rfl (Es hS (E rfl rfl)) (Es hS (E rfl rfl)) rfl rfl nB ?_
   exact AWL.nil (frA (none, 0) trivial rfl (.refl _))
  trivial
 ·exact fun γ hi => ⟨((γ 4).1, (γ 7).1, (γ 10).1, (γ 13).1, (γ 15).2), trivial, (su (su (su (su (su (su sn)))))), rfl⟩
 rintro ⟨A23, A26, A29, A32, b9⟩ _
 refine AWH.done (by kernel_rfl) ?_
 refine AW.dropAt 7 ?_
 refine AW.seq ?_
 refine ra ?_
 refine AW.block ?_
 refine AW.loop (fun (j : Nat) => [(0, true, pv s), (2, true, .sl 1 (args.map zw)), (9, true, pv b9), (10, true, .v (.int .i64 (j : Int)))]) (fun (j : Nat) => [.row A23 R R 22 1 ((rJ args R j).map zw), .row A26 R R 4 1 ((sJ R j).map bv), .row A29 K K 22 1 ((List.replicate K 0#64).map zw), .row A32 K K 4 1 ((List.replicate K false).map bv), .box b9 116 (frD ⟨fi, 0, R, K, rJ args R 0, List.replicate K 0#64, sJ R 0, List.replicate K false, d⟩ ⟨A23, A29, A26, A32⟩), .box s 75 (psD x ob (.v (.slice C n c))), .row C n c 116 7 cs]) (fun (j : Nat) => j ≤ args.length) (fun (j : Nat) => args.length - j) 0 ?_ ?_ ?_ ?_
 ·exact Nat.zero_le _
 ·exact (su (su (su (su sn))))
 ·rfl
 intro j hinv
 refine AW.seq ?_
 refine rs (ym ?_)
 refine ym ?_
 refine Y1 (Yv.lenSl rfl so_32 (B rfl) eV len_zw) ?_
 refine Y1 (Yv.lss rfl eV eV) (nl ?_)
 refine AW.cond rfl (fun h0t => ?_) (fun h0f => ?_)
 ·try replace h0t := odt h0t
  refine AW.skip ?_
  refine AW.seq ?_
  refine AW.block ?_
  refine AW.rseqH (HeldCs [(b9, 2, Value.slice A23 R R), (b9, 3, Value.slice A26 R R)]) rfl (tells_cs (tcB 4 rfl rfl pinV (tcB 4 rfl rfl pinV tc0))) ?_
  refine T2 (i := 0) rfl (heldAll (freeField rfl fo_116_2 (E rfl rfl))) ?_
  refine T2 (i := 1) rfl (heldB 0 rfl ag_32 (E rfl rfl) rfl (fun _ _ => .v _)) ?_
  refine T2 (i := 2) rfl (heldAll (freeMove rfl (E rfl rfl))) ?_
  refine T2 (i := 3) rfl (heldAll (freeMove rfl (E rfl rfl))) ?_
  refine AWH.one (i := 4) (by kernel_rfl) rfl ?_
  refine ym ?_
  refine AWL.nil (kpH (tcB 4 rfl rfl pinV (tcB 4 rfl rfl pinV tc0)) ?_)
  refine AWH.one (i := 5) (by kernel_rfl) rfl ?_
  refine Y1 (Yv.indexSl rfl ss_32 (B rfl) eV eV (fun hg => ⟨rfl, (by first | omega | (simp only [len_code, len_funs, len_args, len_data, len_zw]; omega))⟩)) ?_
  refine AWL.nil (kpH (tcB 4 rfl rfl pinV (tcB 4 rfl rfl pinV tc0)) ?_)
  refine AWH.one (i := 6) (by kernel_rfl) rfl ?_
  refine Y1 (Yv.loadRp rfl ag_22 eV (fun hg => word_at (by omega))) ?_
  refine AWL.nil (kpH (tcB 4 rfl rfl pinV (tcB 4 rfl rfl pinV tc0)) ?_)
  refine AWH.one (i := 7) (by kernel_rfl) rfl ?_
  refine Y1 (Yv.indexRow rfl ss_32 (i := 0) rfl eV eV (fun hg => ⟨rfl, by omega⟩)) ?_
  refine AWL.nil (kpH (tcB 4 rfl rfl pinV (tcB 4 rfl rfl pinV tc0)) ?_)
  refine AWH.one (i := 8) (by kernel_rfl) rfl ?_
  refine AWL.storeEp1 (i := 0) rfl rfl rfl ag_22 rfl (E rfl rfl) (E rfl rfl) rfl rfl (by first | (rw [List.length_map, rj_len (by omega) ha]; omega) | (rw [List.length_map, sj_len (by omega)]; omega)) ?_
  refine AWL.nil (kpH (tcB 4 rfl rfl pinV (tcB 4 rfl rfl pinV tc0)) ?_)
  refine AWH.done (by kernel_rfl) ?_
  refine AW.region ?_
  refine yf fo_116_3 ?_
  refine yl ag_114 4 ?_
  refine ym ?_
  refine Y1 (Yv.indexRow rfl ss_114 (i := 1) rfl eV eV (fun hg => ⟨rfl, by omega⟩)) ?_
  refine AWL.storeEp1 (i := 1) rfl rfl rfl ag_4 rfl (E rfl rfl) (E rfl rfl) rfl rfl (by first | (rw [List.length_map, sj_len (by omega)]; omega) | (rw [List.length_map, rj_len (by omega) ha]; omega)) (nl ?_)
  refine AW.region ?_
  refine ym ?_
  refine Y1 (Yv.addN_i64 rfl eV eV (fun hg => by omega)) ?_
  refine ya ?_
  refine ⟨j + 1, by omega, by omega, (su (su (su (Sub.cons rfl (by simp) Sub.nil)))), ?_⟩
  rw [← rj_succ (show j < args.length by omega) ha, ← sj_succ (show j < R by omega)]
  rfl
 try replace h0f := odf h0f
 obtain rfl : j = args.length := by omega
 refine AW.exit ?_
 refine AW.regionP rfl ?_
 refine T1 (i := 0) rfl (freeMove rfl (E rfl rfl)) ?_
 refine T1 (i := 1) rfl (freeMove rfl (E rfl rfl)) ?_
 refine T1 (i := 2) rfl (freeNil rfl (E rfl rfl)) ?_
 refine T1 (i := 3) rfl (freeField rfl fo_75_6 (E rfl rfl)) ?_
 refine AWP.two (i := 4) (j := 5) (by kernel_rfl) rfl rfl ?_ ?_
 ·refine yl ag_73 5 (nl ?_)
  refine p1 5 ?_
  refine Y1 (Yv.loadBoxA rfl ag_116 (i := 4) rfl eV rfl rfl) (nl ?_)
  refine p1 6 ?_
  refine AWL.buildSliceE rfl rfl (B rfl) rfl el_73 (B rfl) rfl (evsC (E rfl rfl) evs0) nB rfl rfl (nl ?_)
  refine p1 7 ?_
  refine AWL.appendRow (i := 6) rfl rfl (B rfl) rfl el_73 (B rfl) rfl (E rfl rfl) (SrcT.sl so_73 (B rfl) (E rfl rfl) rfl) (by unfold maxLen; omega) (by omega) (fun A59 c59 => ?_)
  refine nl ?_
  refine p1 8 ?_
  refine Y1 (Yv.nilChk rfl eV) (nl ?_)
  refine p1 9 ?_
  refine yf fo_75_6 (nl ?_)
  refine p1 10 ?_
  refine AWL.storeBox (i := 5) rfl rfl rfl ag_73 rfl (E rfl rfl) (E rfl rfl) rfl rfl nB ?_
  refine AWL.rowSome 6 rfl (Nat.mul_pos (Nat.succ_pos _) (by decide)) (fun g59 hg59 => ?_)
  subst hg59
  refine AWL.dropAt 4 ?_
  refine AWL.perm (S' := [.box s 75 (psD x ob (.v (.slice (some ⟨g59, 0, none⟩) (n + 1) c59))), .row (some ⟨g59, 0, none⟩) (n + 1) c59 116 7 (cs ++ frD ⟨fi, 0, R, K, rJ args R args.length, List.replicate K 0#64, sJ R args.length, List.replicate K false, d⟩ ⟨A23, A29, A26, A32⟩), .row A23 R R 22 1 ((rJ args R args.length).map zw), .row A26 R R 4 1 ((sJ R args.length).map bv), .row A29 K K 22 1 ((List.replicate K 0#64).map zw), .row A32 K K 4 1 ((List.replicate K false).map bv)]) (List.perm_append_comm (l₁ := ([.box s 75 (psD x ob (.v (.slice (some ⟨g59, 0, none⟩) (n + 1) c59))), .row (some ⟨g59, 0, none⟩) (n + 1) c59 116 7 (cs ++ frD ⟨fi, 0, R, K, rJ args R args.length, List.replicate K 0#64, sJ R args.length, List.replicate K false, d⟩ ⟨A23, A29, A26, A32⟩)] : St)) (l₂ := [.row A23 R R 22 1 ((rJ args R args.length).map zw), .row A26 R R 4 1 ((sJ R args.length).map bv), .row A29 K K 22 1 ((List.replicate K 0#64).map zw), .row A32 K K 4 1 ((List.replicate K false).map bv)])) (nl ?_)
  refine AWP.done (by kernel_rfl) ?_
  refine retN .nil ?_
  exact ⟨rfl, g59, c59, ⟨A23, A29, A26, A32⟩, rfl⟩
 refine Y1 (Yv.loadBoxA rfl ag_116 (i := 4) rfl eV rfl rfl) (nl ?_)
 refine AWP.two (i := 4) (j := 6) (by kernel_rfl) rfl rfl ?_ ?_
 ·refine yl ag_73 5 (nl ?_)
  refine p1 6 ?_
  refine AWL.buildSliceE rfl rfl (B rfl) rfl el_73 (B rfl) rfl (evsC (E rfl rfl) evs0) nB rfl rfl (nl ?_)
  refine p1 7 ?_
  refine AWL.appendRow (i := 6) rfl rfl (B rfl) rfl el_73 (B rfl) rfl (E rfl rfl) (SrcT.sl so_73 (B rfl) (E rfl rfl) rfl) (by unfold maxLen; omega) (by omega) (fun A59 c59 => ?_)
  refine nl ?_
  refine p1 8 ?_
  refine Y1 (Yv.nilChk rfl eV) (nl ?_)
  refine p1 9 ?_
  refine yf fo_75_6 (nl ?_)
  refine p1 10 ?_
  refine AWL.storeBox (i := 5) rfl rfl rfl ag_73 rfl (E rfl rfl) (E rfl rfl) rfl rfl nB ?_
  refine AWL.rowSome 6 rfl (Nat.mul_pos (Nat.succ_pos _) (by decide)) (fun g59 hg59 => ?_)
  subst hg59
  refine AWL.dropAt 4 ?_
  refine AWL.perm (S' := [.box s 75 (psD x ob (.v (.slice (some ⟨g59, 0, none⟩) (n + 1) c59))), .row (some ⟨g59, 0, none⟩) (n + 1) c59 116 7 (cs ++ frD ⟨fi, 0, R, K, rJ args R args.length, List.replicate K 0#64, sJ R args.length, List.replicate K false, d⟩ ⟨A23, A29, A26, A32⟩), .row A23 R R 22 1 ((rJ args R args.length).map zw), .row A26 R R 4 1 ((sJ R args.length).map bv), .row A29 K K 22 1 ((List.replicate K 0#64).map zw), .row A32 K K 4 1 ((List.replicate K false).map bv)]) (List.perm_append_comm (l₁ := ([.box s 75 (psD x ob (.v (.slice (some ⟨g59, 0, none⟩) (n + 1) c59))), .row (some ⟨g59, 0, none⟩) (n + 1) c59 116 7 (cs ++ frD ⟨fi, 0, R, K, rJ args R args.length, List.replicate K 0#64, sJ R args.length, List.replicate K false, d⟩ ⟨A23, A29, A26, A32⟩)] : St)) (l₂ := [.row A23 R R 22 1 ((rJ args R args.length).map zw), .row A26 R R 4 1 ((sJ R args.length).map bv), .row A29 K K 22 1 ((List.replicate K 0#64).map zw), .row A32 K K 4 1 ((List.replicate K false).map bv)])) (nl ?_)
  refine AWP.done (by kernel_rfl) ?_
  refine retN .nil ?_
  exact ⟨rfl, g59, c59, ⟨A23, A29, A26, A32⟩, rfl⟩
 refine AWL.buildSliceE rfl rfl (B rfl) rfl el_73 (B rfl) rfl (evsC (E rfl rfl) evs0) nB rfl rfl (nl ?_)
 refine p1 4 ?_
 refine yl ag_73 5 (nl ?_)
 refine p1 7 ?_
 refine AWL.appendRow (i := 6) rfl rfl (B rfl) rfl el_73 (B rfl) rfl (E rfl rfl) (SrcT.sl so_73 (B rfl) (E rfl rfl) rfl) (by unfold maxLen; omega) (by omega) (fun A59 c59 => ?_)
 refine nl ?_
 refine p1 8 ?_
 refine Y1 (Yv.nilChk rfl eV) (nl ?_)
 refine p1 9 ?_
 refine yf fo_75_6 (nl ?_)
 refine p1 10 ?_
 refine AWL.storeBox (i := 5) rfl rfl rfl ag_73 rfl (E rfl rfl) (E rfl rfl) rfl rfl nB ?_
 refine AWL.rowSome 6 rfl (Nat.mul_pos (Nat.succ_pos _) (by decide)) (fun g59 hg59 => ?_)
 subst hg59
 refine AWL.dropAt 4 ?_
 refine AWL.perm (S' := [.box s 75 (psD x ob (.v (.slice (some ⟨g59, 0, none⟩) (n + 1) c59))), .row (some ⟨g59, 0, none⟩) (n + 1) c59 116 7 (cs ++ frD ⟨fi, 0, R, K, rJ args R args.length, List.replicate K 0#64, sJ R args.length, List.replicate K false, d⟩ ⟨A23, A29, A26, A32⟩), .row A23 R R 22 1 ((rJ args R args.length).map zw), .row A26 R R 4 1 ((sJ R args.length).map bv), .row A29 K K 22 1 ((List.replicate K 0#64).map zw), .row A32 K K 4 1 ((List.replicate K false).map bv)]) (List.perm_append_comm (l₁ := ([.box s 75 (psD x ob (.v (.slice (some ⟨g59, 0, none⟩) (n + 1) c59))), .row (some ⟨g59, 0, none⟩) (n + 1) c59 116 7 (cs ++ frD ⟨fi, 0, R, K, rJ args R args.length, List.replicate K 0#64, sJ R args.length, List.replicate K false, d⟩ ⟨A23, A29, A26, A32⟩)] : St)) (l₂ := [.row A23 R R 22 1 ((rJ args R args.length).map zw), .row A26 R R 4 1 ((sJ R args.length).map bv), .row A29 K K 22 1 ((List.replicate K 0#64).map zw), .row A32 K K 4 1 ((List.replicate K false).map bv)])) (nl ?_)
 refine AWP.done (by kernel_rfl) ?_
 refine retN .nil ?_
 exact ⟨rfl, g59, c59, ⟨A23, A29, A26, A32⟩, rfl⟩

theorem Dopen43 (s : Nat) (x : PS) (ob : Bool) (fi : Nat) (args : List Wd64) (d : Int) (C : Option Addr) (n c : Nat) (cs : List T) (hf : fi < x.prog.funs.length) (hpf : x.prog.funs.length ≤ 1048576) (h0 : 0 ≤ (x.prog.funs.getD fi default).regs) (h1 : (x.prog.funs.getD fi default).regs ≤ 65536) (k0 : 0 ≤ (x.prog.funs.getD fi default).slots) (k1 : (x.prog.funs.getD fi default).slots ≤ 1048576) (ha : (args.length : Int) ≤ (x.prog.funs.getD fi default).regs) (hn : n ≤ 1048576) :
    ACalls Tryz.prog 40 [pv s, .v (.int .i64 (fi : Int)), .sl 1 (args.map zw), zi d] [.box s 75 (psD x ob (.v (.slice C n c))), .row C n c 116 7 cs] (fun t S => t = .tup [] ∧ ∃ g c' a, S = [.box s 75 (psD x ob (.v (.slice (some ⟨g, 0, none⟩) (n + 1) c'))), .row (some ⟨g, 0, none⟩) (n + 1) c' 116 7 (cs ++ frD (openFr (x.prog.funs.getD fi default) fi args d) a)] ++ frE (openFr (x.prog.funs.getD fi default) fi args d) a) :=
 Dopen43_ s x ob fi args d C n c cs _ _ hf hpf (by omega) (by omega) (by omega) (by omega) (by omega) hn
end Go.Proofs.YtpgbpdnmjeoeoaaGreat

namespace Go.Proofs.YtpgbpdnmjeoeoaaGreat
open Go Go.RowKit

theorem mod256 (v : Wd64) : v % 256#64 = v &&& 255#64 := by
 apply BitVec.eq_of_toNat_eq
 rw [BitVec.toNat_umod, BitVec.toNat_and]
 show v.toNat % 2 ^ 8 = v.toNat &&& (2 ^ 8 - 1)
 exact (Nat.and_two_pow_sub_one_eq_mod _ _).symm
theorem mod64 (v : Wd64) : v % 64#64 = v &&& 63#64 := by
 apply BitVec.eq_of_toNat_eq
 rw [BitVec.toNat_umod, BitVec.toNat_and]
 show v.toNat % 2 ^ 6 = v.toNat &&& (2 ^ 6 - 1)
 exact (Nat.and_two_pow_sub_one_eq_mod _ _).symm
set_option maxHeartbeats 2000000 in
theorem DbackOne (s g c : Nat) (ps : PS) (ob : Bool) (x : Fr) (a : FA) (v : Wd64) :
    ACalls Tryz.prog 69 [pv s, zw v] ([Ent.box s 75 (psD ps ob (.v (.slice (some ⟨g, 0, none⟩) 1 c))), Ent.row (some ⟨g, 0, none⟩) 1 c 116 7 (frD x a)]) (fun t S => t = .tup [] ∧ S = [Ent.box s 75 (psD (backP ps v) ob (.v (.slice (some ⟨g, 0, none⟩) 1 c))), Ent.row (some ⟨g, 0, none⟩) 1 c 116 7 (frD x a)]) := by
 refine ACalls.intro Tryz.func69 rfl Tryz.ntmps69 nB rfl fun X w0 => ?_
 refine rs (ym ?_)
 refine Y1 (Yv.nilChk rfl eV) ?_
 refine yf fo_75_6 ?_
 refine yl ag_73 0 ?_
 refine Y1 (Yv.lenV rfl so_73 eV) ?_
 refine ya ?_
 refine rs (ym ?_)
 refine Y1 (Yv.nilChk rfl eV) ?_
 refine yf fo_75_6 ?_
 refine yl ag_73 0 ?_
 refine ym ?_
 refine Y1 (Yv.subN_i64 rfl eV eV (fun hg => by omega)) ?_
 refine Y1 (Yv.indexRow (j := 0) rfl ss_73 (i := 1) rfl eV eV (fun hg => ⟨rfl, by omega⟩)) ?_
 refine Y1 (Yv.fieldEp rfl fo_116_6 eV) ?_
 refine Y1 (Yv.loadEp rfl ag_3 (i := 1) rfl eV (fun _ => rfl)) ?_
 refine ya ?_
 refine AW.seq ?_
 refine rs (ym ?_)
 refine Y1 (Yv.gtr rfl eV eV) (nl ?_)
 refine AW.cond rfl (fun h0t => ?_) (fun h0f => ?_)
 ·try replace h0t := odt h0t
  exfalso; omega
 try replace h0f := odf h0f
 refine AW.skip ?_
 refine AW.seq ?_
 refine rs (ym ?_)
 refine Y1 (Yv.nilChk rfl eV) ?_
 refine yf fo_75_7 ?_
 refine yl ag_4 0 (nl ?_)
 refine AW.cond rfl (fun h1t => ?_) (fun h1f => ?_)
 ·try replace h1t := odt h1t
  refine rs (ym ?_)
  refine Y1 (Yv.nilChk rfl eV) ?_
  refine yf fo_75_8 ?_
  refine AWL.storeBox (i := 0) rfl rfl rfl ag_3 rfl (E rfl rfl) (E rfl rfl) rfl rfl nB (nl ?_)
  refine rs (ym ?_)
  refine ym ?_
  refine Y1 (Yv.nilChk rfl eV) ?_
  refine yf fo_75_9 ?_
  refine AWL.storeBox (i := 0) rfl rfl rfl ag_22 rfl (E rfl rfl) (E rfl rfl) rfl rfl nB (nl ?_)
  refine AW.ret (retI .nil ?_)
  refine ⟨rfl, ?_⟩
  rw [backP, if_pos h1t]
  rfl
 try replace h1f := odf h1f
 refine AW.skip ?_
 refine rs (ym ?_)
 refine Y1 (Yv.nilChk rfl eV) ?_
 refine yf fo_75_8 ?_
 refine AWL.storeBox (i := 0) rfl rfl rfl ag_3 rfl (E rfl rfl) (E rfl rfl) rfl rfl nB (nl ?_)
 refine AW.region ?_
 refine ym ?_
 refine ym ?_
 refine Y1 (Yv.remW (b := 256#64) rfl (E rfl rfl) (E rfl rfl) (by decide)) ?_
 refine Y1 (Yv.conv rfl Tryz.underlying22 kd_3 eV) ?_
 refine Y1 (Yv.nilChk rfl eV) ?_
 refine yf fo_75_10 ?_
 refine AWL.storeBox (i := 0) rfl rfl rfl ag_3 rfl (E rfl rfl) (E rfl rfl) rfl rfl nB (nl ?_)
 refine retN .nil ?_
 refine ⟨rfl, ?_⟩
 rw [backP, if_neg (by rw [h1f]; decide), ← mod256]
 rfl

set_option maxHeartbeats 4000000 in
theorem DbackMore (s g c k : Nat) (ps : PS) (ob : Bool) (pre : List T) (y : Fr) (b : FA) (x : Fr) (a : FA) (v : Wd64) (hpre : pre.length = k * 7) (hk : k ≤ 1048576) (hy : FrOk y) (hd : 0 ≤ x.d ∧ x.d < (y.nr : Int)) :
    ACalls Tryz.prog 69 [pv s, zw v] ([Ent.box s 75 (psD ps ob (.v (.slice (some ⟨g, 0, none⟩) (k + 2) c))), Ent.row (some ⟨g, 0, none⟩) (k + 2) c 116 7 (pre ++ frD y b ++ frD x a)] ++ frE y b) (fun t S => t = .tup [] ∧ S = [Ent.box s 75 (psD ps ob (.v (.slice (some ⟨g, 0, none⟩) (k + 1) c))), Ent.row (some ⟨g, 0, none⟩) (k + 1) c 116 7 (pre ++ frD y b)] ++ frE (setD y x.d v) b) := by
 have hl1 := hy.r
 have hl2 := hy.t
 obtain ⟨hd0, hd1⟩ := hd
 refine ACalls.intro Tryz.func69 rfl Tryz.ntmps69 nB rfl fun X w0 => ?_
 refine rs (ym ?_)
 refine Y1 (Yv.nilChk rfl eV) ?_
 refine yf fo_75_6 ?_
 refine yl ag_73 0 ?_
 refine Y1 (Yv.lenV rfl so_73 eV) ?_
 refine ya ?_
 refine rs (ym ?_)
 refine Y1 (Yv.nilChk rfl eV) ?_
 refine yf fo_75_6 ?_
 refine yl ag_73 0 ?_
 refine ym ?_
 refine Y1 (Yv.subN_i64 rfl eV eV (fun hg => by omega)) ?_
 refine Y1 (Yv.indexRow (j := (k + 1)) rfl ss_73 (i := 1) rfl eV eV (fun hg => ⟨by omega, by omega⟩)) ?_
 refine Y1 (Yv.fieldEp rfl fo_116_6 eV) ?_
 refine Y1 (Yv.loadEp rfl ag_3 (i := 1) rfl eV (fun hg => (top6D hpre))) ?_
 refine ya ?_
 refine AW.seq ?_
 refine rs (ym ?_)
 refine Y1 (Yv.gtr rfl eV eV) (nl ?_)
 refine AW.cond rfl (fun h0t => ?_) (fun h0f => ?_)
 ·try replace h0t := odt h0t
  refine AW.rowLe 1 rfl (fun hkc => ?_)
  refine rs (ym ?_)
  refine ym ?_
  refine Y1 (Yv.nilChk rfl eV) ?_
  refine yf fo_75_6 ?_
  refine yl ag_73 0 ?_
  refine ym ?_
  refine Y1 (Yv.subN_i64 rfl eV eV (fun hg => by omega)) ?_
  refine Y1 (Yv.sliceRow0 (i := 1) (m := k + 1) rfl ss_73 rfl eV (Bound.some_ eV (fun hg => by omega)) (fun hg => by omega)) ?_
  refine Y1 (Yv.nilChk rfl eV) ?_
  refine yf fo_75_6 ?_
  refine AWL.storeBox (i := 0) rfl rfl rfl ag_73 rfl (E rfl rfl) (E rfl rfl) rfl rfl nB (nl ?_)
  refine AW.shrink 1 (k + 1) rfl (by omega) ?_
  refine AW.eqS (S' := [Ent.box s 75 (psD ps ob (.v (.slice (some ⟨g, 0, none⟩) (k + 1) c))), Ent.row (some ⟨g, 0, none⟩) (k + 1) c 116 7 (pre ++ frD y b)] ++ frE y b) (by
   rw [take_topD hpre]
   rfl) ?_
  refine rs (ym ?_)
  refine Y1 (Yv.nilChk rfl eV) ?_
  refine yf fo_75_6 ?_
  refine yl ag_73 0 ?_
  refine ym ?_
  refine Y1 (Yv.subN_i64 rfl eV eV (fun hg => by omega)) ?_
  refine Y1 (Yv.indexRow (j := k) rfl ss_73 (i := 1) rfl eV eV (fun hg => ⟨by omega, by omega⟩)) ?_
  refine Y1 (Yv.fieldEp rfl fo_116_2 eV) ?_
  refine Y1 (Yv.loadEp rfl ag_32 (i := 1) rfl eV (fun hg => (hpre ▸ fd2))) ?_
  refine ym ?_
  refine ym ?_
  refine Y1 (Yv.indexRow (j := x.d.toNat) rfl ss_32 (i := 2) rfl eV eV (fun hg => ⟨(Int.toNat_of_nonneg hd0).symm, by omega⟩)) ?_
  refine AWL.storeEp1 (i := 2) rfl rfl rfl ag_22 rfl (E rfl rfl) (E rfl rfl) rfl rfl (by first | (rw [List.length_map]; omega) | omega) (nl ?_)
  refine rs (ym ?_)
  refine Y1 (Yv.nilChk rfl eV) ?_
  refine yf fo_75_6 ?_
  refine yl ag_73 0 ?_
  refine ym ?_
  refine Y1 (Yv.subN_i64 rfl eV eV (fun hg => by omega)) ?_
  refine Y1 (Yv.indexRow (j := k) rfl ss_73 (i := 1) rfl eV eV (fun hg => ⟨by omega, by omega⟩)) ?_
  refine Y1 (Yv.fieldEp rfl fo_116_3 eV) ?_
  refine Y1 (Yv.loadEp rfl ag_114 (i := 1) rfl eV (fun hg => (hpre ▸ fd3))) ?_
  refine ym ?_
  refine Y1 (Yv.indexRow (j := x.d.toNat) rfl ss_114 (i := 3) rfl eV eV (fun hg => ⟨(Int.toNat_of_nonneg hd0).symm, by omega⟩)) ?_
  refine AWL.storeEp1 (i := 3) rfl rfl rfl ag_4 rfl (E rfl rfl) (E rfl rfl) rfl rfl (by first | (rw [List.length_map]; omega) | omega) (nl ?_)
  refine AW.ret (retI .nil ?_)
  refine ⟨rfl, ?_⟩
  rw [setE_rows]
  rfl
 try replace h0f := odf h0f
 exfalso; omega

end Go.Proofs.YtpgbpdnmjeoeoaaGreat

namespace Go.Proofs.YtpgbpdnmjeoeoaaGreat
open Go Go.RowKit

set_option maxHeartbeats 16000000 in
theorem Dvalue72_ (s g n c : Nat) (ps : PS) (ob : Bool) (pre : List T) (x : Fr) (a : FA) (i : Ins) (hx : FrOk x) (hk : valK i.kind) (ha : (hasF i.kind).a = true → 0 ≤ i.a ∧ i.a < (x.nr : Int)) (hb : (hasF i.kind).b = true → 0 ≤ i.b ∧ i.b < (x.nr : Int)) (hs : i.kind = 31 → 0 ≤ i.imm ∧ i.imm < (x.ns : Int)) (hre : i.kind = 16 → 1 ≤ i.real ∧ i.real ≤ 8) :
    ACalls Tryz.prog 71 [pv s, .ep (.slice (some ⟨g, 0, none⟩) n c) pre.length, .agg (insCells i)] ([Ent.box s 75 (psD ps ob (.v (.slice (some ⟨g, 0, none⟩) n c))), Ent.row (some ⟨g, 0, none⟩) n c 116 7 (pre ++ frD x a)] ++ frE x a) (fun t S => t = .tup [zw (valueF realF ps.heap x i).1, bv (valueF realF ps.heap x i).2] ∧ ([Ent.box s 75 (psD ps ob (.v (.slice (some ⟨g, 0, none⟩) n c))), Ent.row (some ⟨g, 0, none⟩) n c 116 7 (pre ++ frD x a)] ++ frE x a).Sublist S) := by
 have hl1 := hx.r
 have hl2 := hx.s
 have hl3 := hx.t
 have hl4 := hx.h
 unfold valK at hk
 refine ACalls.intro Tryz.func71 rfl Tryz.ntmps71 nB rfl fun X w0 => ?_
 refine rs ?_
 refine AWL.boxOp rfl rfl (B rfl) rfl (E rfl rfl) rfl (fun b5 => ?_)
 refine Y1 (Yv.assign rfl eV) ?_
 refine ya ?_
 refine AW.seq ?_
 refine rs (yf fo_98_0 ?_)
 refine yl ag_3 6 (nl ?_)
 refine AW.block ?_
 refine rs (Y1 (Yv.eql rfl eV eV) ?_)
 refine ya ?_
 refine AW.cond rfl (fun h0t => ?_) (fun h0f => ?_)
 ·try replace h0t := odt h0t
  refine rs (yf fo_98_9 ?_)
  refine yl ag_2 6 ?_
  refine Y1 (Yv.convW rfl Tryz.underlying2 kd_22 eV) ?_
  refine Y1 (Yv.assign rfl eV) ?_
  refine ya ?_
  refine AW.ret (retI (.tmp rfl (.tmp rfl .nil)) ?_)
  rw [valueF, if_pos (by omega)]
  exact ⟨rfl, List.sublist_append_left _ _⟩
 try replace h0f := odf h0f
 refine rs (Y1 (Yv.eql rfl eV eV) ?_)
 refine ya ?_
 refine AW.cond rfl (fun h1t => ?_) (fun h1f => ?_)
 ·try replace h1t := odt h1t
  refine rs (yf fo_98_9 ?_)
  refine yl ag_2 6 ?_
  refine Y1 (Yv.convW rfl Tryz.underlying2 kd_22 eV) ?_
  refine Y1 (Yv.addW (a := 268435456#64) rfl eV eV) ?_
  refine Y1 (Yv.assign rfl eV) ?_
  refine ya ?_
  refine AW.ret (retI (.tmp rfl (.tmp rfl .nil)) ?_)
  rw [valueF, if_neg (by omega), if_pos (by omega)]
  exact ⟨rfl, List.sublist_append_left _ _⟩
 try replace h1f := odf h1f
 refine rs (Y1 (Yv.eql rfl eV eV) ?_)
 refine ya ?_
 refine AW.cond rfl (fun h2t => ?_) (fun h2f => ?_)
 ·try replace h2t := odt h2t
  refine rs (yf fo_98_5 ?_)
  refine yl ag_3 6 ?_
  refine Y1 (Yv.convW rfl Tryz.underlying3 kd_22 eV) ?_
  refine Y1 (Yv.mulW (a := 16#64) rfl eV eV) ?_
  refine Y1 (Yv.addW (a := 4194304#64) rfl eV eV) ?_
  refine Y1 (Yv.assign rfl eV) ?_
  refine ya ?_
  refine AW.ret (retI (.tmp rfl (.tmp rfl .nil)) ?_)
  rw [valueF, if_neg (by omega), if_neg (by omega), if_pos (by omega)]
  exact ⟨rfl, List.sublist_append_left _ _⟩
 try replace h2f := odf h2f
 refine rs (Y1 (Yv.eql rfl eV eV) ?_)
 refine ya ?_
 refine AW.cond rfl (fun h3t => ?_) (fun h3f => ?_)
 ·try replace h3t := odt h3t
  refine rs (ym ?_)
  refine Y1 (Yv.nilChk rfl eV) ?_
  refine yf fo_75_2 ?_
  refine yl ag_22 0 ?_
  refine Y1 (Yv.assign rfl eV) ?_
  refine ya ?_
  refine AW.ret (retI (.tmp rfl (.tmp rfl .nil)) ?_)
  rw [valueF, if_neg (by omega), if_neg (by omega), if_neg (by omega), if_pos (by omega)]
  exact ⟨rfl, List.sublist_append_left _ _⟩
 try replace h3f := odf h3f
 refine rs (Y1 (Yv.eql rfl eV eV) ?_)
 refine ya ?_
 refine AW.cond rfl (fun h4t => ?_) (fun h4f => ?_)
 ·try replace h4t := odt h4t
  obtain ⟨hs0, hs1⟩ := hs (by omega)
  refine AW.rseqQ rfl (by kernel_rfl) ?_
  refine qm ?_
  refine Q1 (Yv.nilChkEp rfl eV) ?_
  refine Q1 (Yv.fieldEp rfl fo_116_4 eV) ?_
  refine Q1 (Yv.loadEp rfl ag_32 (i := 1) rfl eV (fun hg => fd4)) ?_
  refine qf fo_98_9 ?_
  refine ql ag_2 6 ?_
  refine Q1 (Yv.indexRow (j := i.imm.toNat) rfl ss_32 (i := 4) rfl eV eV (fun hg => ⟨(Int.toNat_of_nonneg (by omega)).symm, by omega⟩)) ?_
  refine Q1 (Yv.loadEp rfl ag_22 (i := 4) rfl eV (fun hg => word_at (by omega))) ?_
  refine qm ?_
  refine Q1 (Yv.nilChkEp rfl eV) ?_
  refine Q1 (Yv.fieldEp rfl fo_116_5 eV) ?_
  refine Q1 (Yv.loadEp rfl ag_114 (i := 1) rfl eV (fun hg => fd5)) ?_
  refine qf fo_98_9 ?_
  refine ql ag_2 6 ?_
  refine Q1 (Yv.indexRow (j := i.imm.toNat) rfl ss_114 (i := 5) rfl eV eV (fun hg => ⟨(Int.toNat_of_nonneg (by omega)).symm, by omega⟩)) ?_
  refine Q1 (Yv.loadEp rfl ag_4 (i := 5) rfl eV (fun hg => bool_at (by omega))) ?_
  refine Q1 (Yv.assign rfl eV) ?_
  refine Q1 (Yv.assign rfl eV) ?_
  refine AWQ.nil ?_
  refine AW.ret (retI (.tmp rfl (.tmp rfl .nil)) ?_)
  rw [valueF, if_neg (by omega), if_neg (by omega), if_neg (by omega), if_neg (by omega), if_pos (by omega)]
  exact ⟨rfl, List.sublist_append_left _ _⟩
 try replace h4f := odf h4f
 refine AW.skip ?_
 obtain ⟨ha0, ha1⟩ := ha (by
  by_cases h2 : i.kind = 2
  ·rw [h2]; rfl
  ·exact (has_ab (k := i.kind) (by omega) (by omega)).1)
 refine AW.rseqQ rfl (by kernel_rfl) ?_
 refine qm ?_
 refine Q1 (Yv.nilChkEp rfl eV) ?_
 refine Q1 (Yv.fieldEp rfl fo_116_2 eV) ?_
 refine Q1 (Yv.loadEp rfl ag_32 (i := 1) rfl eV (fun hg => fd2)) ?_
 refine qf fo_98_2 ?_
 refine ql ag_3 6 ?_
 refine Q1 (Yv.indexRow (j := i.a.toNat) rfl ss_32 (i := 2) rfl eV eV (fun hg => ⟨(Int.toNat_of_nonneg (by omega)).symm, by omega⟩)) ?_
 refine Q1 (Yv.loadEp rfl ag_22 (i := 2) rfl eV (fun hg => word_at (by omega))) ?_
 refine Q1 (Yv.assign rfl eV) ?_
 refine AWQ.nil ?_
 refine AW.seq ?_
 refine rs (yf fo_98_0 ?_)
 refine yl ag_3 6 ?_
 refine Y1 (Yv.eql rfl eV eV) (nl ?_)
 refine AW.cond rfl (fun h5t => ?_) (fun h5f => ?_)
 ·try replace h5t := odt h5t
  refine rs (ym ?_)
  refine Y1 (Yv.assign rfl eV) ?_
  refine ya ?_
  refine AW.ret (retI (.tmp rfl (.tmp rfl .nil)) ?_)
  rw [valueF, if_neg (by omega), if_neg (by omega), if_neg (by omega), if_neg (by omega), if_neg (by omega), if_pos (by omega)]
  exact ⟨rfl, List.sublist_append_left _ _⟩
 try replace h5f := odf h5f
 refine AW.skip ?_
 refine AW.seq ?_
 refine rs (yf fo_98_0 ?_)
 refine yl ag_3 6 ?_
 refine Y1 (Yv.eql rfl eV eV) (nl ?_)
 refine AW.cond rfl (fun h6t => ?_) (fun h6f => ?_)
 ·try replace h6t := odt h6t
  exfalso; omega
 try replace h6f := odf h6f
 refine AW.skip ?_
 obtain ⟨hb0, hb1⟩ := hb (has_ab (k := i.kind) (by omega) (by omega)).2
 refine AW.rseqQ rfl (by kernel_rfl) ?_
 refine qm ?_
 refine Q1 (Yv.nilChkEp rfl eV) ?_
 refine Q1 (Yv.fieldEp rfl fo_116_2 eV) ?_
 refine Q1 (Yv.loadEp rfl ag_32 (i := 1) rfl eV (fun hg => fd2)) ?_
 refine qf fo_98_3 ?_
 refine ql ag_3 6 ?_
 refine Q1 (Yv.indexRow (j := i.b.toNat) rfl ss_32 (i := 2) rfl eV eV (fun hg => ⟨(Int.toNat_of_nonneg (by omega)).symm, by omega⟩)) ?_
 refine Q1 (Yv.loadEp rfl ag_22 (i := 2) rfl eV (fun hg => word_at (by omega))) ?_
 refine Q1 (Yv.assign rfl eV) ?_
 refine AWQ.nil ?_
 refine rs (ym ?_)
 refine Y1 (Yv.eqT (Yv.remW (b := 64#64) rfl (E rfl rfl) (E rfl rfl) (by decide)) (congrArg zw (mod64 _))) ?_
 refine ya ?_
 refine AW.seq ?_
 refine rs (yf fo_98_0 ?_)
 refine yl ag_3 6 (nl ?_)
 refine AW.block ?_
 refine rs (Y1 (Yv.eql rfl eV eV) ?_)
 refine ya ?_
 refine AW.cond rfl (fun h7t => ?_) (fun h7f => ?_)
 ·try replace h7t := odt h7t
  refine rs (ym ?_)
  refine ym ?_
  refine Y1 (Yv.addW rfl eV eV) ?_
  refine Y1 (Yv.assign rfl eV) ?_
  refine ya ?_
  refine AW.ret (retI (.tmp rfl (.tmp rfl .nil)) ?_)
  rw [valueF, if_neg (by omega), if_neg (by omega), if_neg (by omega), if_neg (by omega), if_neg (by omega), if_neg (by omega), if_pos (by omega)]
  exact ⟨rfl, List.sublist_append_left _ _⟩
 try replace h7f := odf h7f
 refine rs (Y1 (Yv.eql rfl eV eV) ?_)
 refine ya ?_
 refine AW.cond rfl (fun h8t => ?_) (fun h8f => ?_)
 ·try replace h8t := odt h8t
  refine rs (ym ?_)
  refine ym ?_
  refine Y1 (Yv.subW rfl eV eV) ?_
  refine Y1 (Yv.assign rfl eV) ?_
  refine ya ?_
  refine AW.ret (retI (.tmp rfl (.tmp rfl .nil)) ?_)
  rw [valueF, if_neg (by omega), if_neg (by omega), if_neg (by omega), if_neg (by omega), if_neg (by omega), if_neg (by omega), if_neg (by omega), if_pos (by omega)]
  exact ⟨rfl, List.sublist_append_left _ _⟩
 try replace h8f := odf h8f
 refine rs (Y1 (Yv.eql rfl eV eV) ?_)
 refine ya ?_
 refine AW.cond rfl (fun h9t => ?_) (fun h9f => ?_)
 ·try replace h9t := odt h9t
  refine rs (ym ?_)
  refine ym ?_
  refine Y1 (Yv.mulW rfl eV eV) ?_
  refine Y1 (Yv.assign rfl eV) ?_
  refine ya ?_
  refine AW.ret (retI (.tmp rfl (.tmp rfl .nil)) ?_)
  rw [valueF, if_neg (by omega), if_neg (by omega), if_neg (by omega), if_neg (by omega), if_neg (by omega), if_neg (by omega), if_neg (by omega), if_neg (by omega), if_pos (by omega)]
  exact ⟨rfl, List.sublist_append_left _ _⟩
 try replace h9f := odf h9f
 refine rs (Y1 (Yv.eql rfl eV eV) ?_)
 refine ya ?_
 refine AW.cond rfl (fun h10t => ?_) (fun h10f => ?_)
 ·try replace h10t := odt h10t
  refine rs (ym ?_)
  refine ym ?_
  refine AWL.callT rfl rfl (B rfl) rfl ce_129 (E rfl rfl) (evsC (E rfl rfl) (evsC (E rfl rfl) evs0)) (DWide94 (rA x i.a) (rA x i.b)) ?_
  rintro t115 S115 rfl
  refine ym ?_
  refine Y1 (Yv.extract rfl eV rfl) ?_
  refine Y1 (Yv.extract rfl eV rfl) ?_
  refine Y1 (Yv.assign rfl eV) ?_
  refine ya ?_
  refine rs (ym ?_)
  refine Y1 (Yv.assign rfl eV) ?_
  refine ya ?_
  refine AW.ret (retI (.tmp rfl (.tmp rfl .nil)) ?_)
  rw [valueF, if_neg (by omega), if_neg (by omega), if_neg (by omega), if_neg (by omega), if_neg (by omega), if_neg (by omega), if_neg (by omega), if_neg (by omega), if_neg (by omega), if_pos (by omega)]
  exact ⟨rfl, List.sublist_append_left _ _⟩
 try replace h10f := odf h10f
 refine rs (Y1 (Yv.eql rfl eV eV) ?_)
 refine ya ?_
 refine AW.cond rfl (fun h11t => ?_) (fun h11f => ?_)
 ·try replace h11t := odt h11t
  refine AW.seq ?_
  refine rs (ym ?_)
  refine Y1 (Yv.eqlW (b := 0#64) rfl eV eV) (nl ?_)
  refine AW.cond rfl (fun h12t => ?_) (fun h12f => ?_)
  ·try replace h12t := odt h12t
   refine rs (Y1 (Yv.assign rfl eV) ?_)
   refine ya ?_
   refine AW.ret (retI (.tmp rfl (.tmp rfl .nil)) ?_)
   rw [valueF, if_neg (by omega), if_neg (by omega), if_neg (by omega), if_neg (by omega), if_neg (by omega), if_neg (by omega), if_neg (by omega), if_neg (by omega), if_neg (by omega), if_neg (by omega), if_neg (by omega), if_neg (by omega), if_neg (by omega), if_neg (by omega), if_neg (by omega), if_neg (by omega), if_neg (by omega), if_neg (by omega)]
   rw [if_pos (by assumption)]
   exact ⟨rfl, List.sublist_append_left _ _⟩
  try replace h12f := odf h12f
  refine AW.skip ?_
  refine rs (ym ?_)
  refine ym ?_
  refine Y1 (Yv.quoW rfl eV eV (by assumption)) ?_
  refine Y1 (Yv.assign rfl eV) ?_
  refine ya ?_
  refine AW.ret (retI (.tmp rfl (.tmp rfl .nil)) ?_)
  rw [valueF, if_neg (by omega), if_neg (by omega), if_neg (by omega), if_neg (by omega), if_neg (by omega), if_neg (by omega), if_neg (by omega), if_neg (by omega), if_neg (by omega), if_neg (by omega), if_neg (by omega), if_neg (by omega), if_neg (by omega), if_neg (by omega), if_neg (by omega), if_neg (by omega), if_neg (by omega), if_neg (by omega)]
  rw [if_neg (by assumption), if_pos (by omega)]
  exact ⟨rfl, List.sublist_append_left _ _⟩
 try replace h11f := odf h11f
 refine rs (Y1 (Yv.eql rfl eV eV) ?_)
 refine ya ?_
 refine AW.cond rfl (fun h13t => ?_) (fun h13f => ?_)
 ·try replace h13t := odt h13t
  refine AW.seq ?_
  refine rs (ym ?_)
  refine Y1 (Yv.eqlW (b := 0#64) rfl eV eV) (nl ?_)
  refine AW.cond rfl (fun h14t => ?_) (fun h14f => ?_)
  ·try replace h14t := odt h14t
   refine rs (Y1 (Yv.assign rfl eV) ?_)
   refine ya ?_
   refine AW.ret (retI (.tmp rfl (.tmp rfl .nil)) ?_)
   rw [valueF, if_neg (by omega), if_neg (by omega), if_neg (by omega), if_neg (by omega), if_neg (by omega), if_neg (by omega), if_neg (by omega), if_neg (by omega), if_neg (by omega), if_neg (by omega), if_neg (by omega), if_neg (by omega), if_neg (by omega), if_neg (by omega), if_neg (by omega), if_neg (by omega), if_neg (by omega), if_neg (by omega)]
   rw [if_pos (by assumption)]
   exact ⟨rfl, List.sublist_append_left _ _⟩
  try replace h14f := odf h14f
  refine AW.skip ?_
  refine rs (ym ?_)
  refine ym ?_
  refine Y1 (Yv.remW rfl eV eV (by assumption)) ?_
  refine Y1 (Yv.assign rfl eV) ?_
  refine ya ?_
  refine AW.ret (retI (.tmp rfl (.tmp rfl .nil)) ?_)
  rw [valueF, if_neg (by omega), if_neg (by omega), if_neg (by omega), if_neg (by omega), if_neg (by omega), if_neg (by omega), if_neg (by omega), if_neg (by omega), if_neg (by omega), if_neg (by omega), if_neg (by omega), if_neg (by omega), if_neg (by omega), if_neg (by omega), if_neg (by omega), if_neg (by omega), if_neg (by omega), if_neg (by omega)]
  rw [if_neg (by assumption), if_neg (by omega)]
  exact ⟨rfl, List.sublist_append_left _ _⟩
 try replace h13f := odf h13f
 refine rs (Y1 (Yv.eql rfl eV eV) ?_)
 refine ya ?_
 refine AW.cond rfl (fun h15t => ?_) (fun h15f => ?_)
 ·try replace h15t := odt h15t
  refine rs (ym ?_)
  refine ym ?_
  refine Y1 (Yv.andW rfl eV eV) ?_
  refine Y1 (Yv.assign rfl eV) ?_
  refine ya ?_
  refine AW.ret (retI (.tmp rfl (.tmp rfl .nil)) ?_)
  rw [valueF, if_neg (by omega), if_neg (by omega), if_neg (by omega), if_neg (by omega), if_neg (by omega), if_neg (by omega), if_neg (by omega), if_neg (by omega), if_neg (by omega), if_neg (by omega), if_pos (by omega)]
  exact ⟨rfl, List.sublist_append_left _ _⟩
 try replace h15f := odf h15f
 refine rs (Y1 (Yv.eql rfl eV eV) ?_)
 refine ya ?_
 refine AW.cond rfl (fun h16t => ?_) (fun h16f => ?_)
 ·try replace h16t := odt h16t
  refine rs (ym ?_)
  refine ym ?_
  refine Y1 (Yv.orW rfl eV eV) ?_
  refine Y1 (Yv.assign rfl eV) ?_
  refine ya ?_
  refine AW.ret (retI (.tmp rfl (.tmp rfl .nil)) ?_)
  rw [valueF, if_neg (by omega), if_neg (by omega), if_neg (by omega), if_neg (by omega), if_neg (by omega), if_neg (by omega), if_neg (by omega), if_neg (by omega), if_neg (by omega), if_neg (by omega), if_neg (by omega), if_pos (by omega)]
  exact ⟨rfl, List.sublist_append_left _ _⟩
 try replace h16f := odf h16f
 refine rs (Y1 (Yv.eql rfl eV eV) ?_)
 refine ya ?_
 refine AW.cond rfl (fun h17t => ?_) (fun h17f => ?_)
 ·try replace h17t := odt h17t
  refine rs (ym ?_)
  refine ym ?_
  refine Y1 (Yv.xorW rfl eV eV) ?_
  refine Y1 (Yv.assign rfl eV) ?_
  refine ya ?_
  refine AW.ret (retI (.tmp rfl (.tmp rfl .nil)) ?_)
  rw [valueF, if_neg (by omega), if_neg (by omega), if_neg (by omega), if_neg (by omega), if_neg (by omega), if_neg (by omega), if_neg (by omega), if_neg (by omega), if_neg (by omega), if_neg (by omega), if_neg (by omega), if_neg (by omega), if_pos (by omega)]
  exact ⟨rfl, List.sublist_append_left _ _⟩
 try replace h17f := odf h17f
 refine rs (Y1 (Yv.eql rfl eV eV) ?_)
 refine ya ?_
 refine AW.cond rfl (fun h18t => ?_) (fun h18f => ?_)
 ·try replace h18t := odt h18t
  refine rs (ym ?_)
  refine ym ?_
  refine Y1 (Yv.shlW rfl eV eV (lt63 _)) ?_
  refine Y1 (Yv.assign rfl eV) ?_
  refine ya ?_
  refine AW.ret (retI (.tmp rfl (.tmp rfl .nil)) ?_)
  rw [valueF, if_neg (by omega), if_neg (by omega), if_neg (by omega), if_neg (by omega), if_neg (by omega), if_neg (by omega), if_neg (by omega), if_neg (by omega), if_neg (by omega), if_neg (by omega), if_neg (by omega), if_neg (by omega), if_neg (by omega), if_pos (by omega)]
  exact ⟨rfl, List.sublist_append_left _ _⟩
 try replace h18f := odf h18f
 refine rs (Y1 (Yv.eql rfl eV eV) ?_)
 refine ya ?_
 refine AW.cond rfl (fun h19t => ?_) (fun h19f => ?_)
 ·try replace h19t := odt h19t
  refine rs (ym ?_)
  refine ym ?_
  refine Y1 (Yv.shrW rfl eV eV (lt63 _)) ?_
  refine Y1 (Yv.assign rfl eV) ?_
  refine ya ?_
  refine AW.ret (retI (.tmp rfl (.tmp rfl .nil)) ?_)
  rw [valueF, if_neg (by omega), if_neg (by omega), if_neg (by omega), if_neg (by omega), if_neg (by omega), if_neg (by omega), if_neg (by omega), if_neg (by omega), if_neg (by omega), if_neg (by omega), if_neg (by omega), if_neg (by omega), if_neg (by omega), if_neg (by omega), if_pos (by omega)]
  exact ⟨rfl, List.sublist_append_left _ _⟩
 try replace h19f := odf h19f
 refine rs (Y1 (Yv.eql rfl eV eV) ?_)
 refine ya ?_
 refine AW.cond rfl (fun h20t => ?_) (fun h20f => ?_)
 ·try replace h20t := odt h20t
  refine rs (ym ?_)
  refine Y1 (Yv.conv rfl Tryz.underlying22 kd_2 eV) ?_
  refine ym ?_
  refine Y1 (Yv.shr (p := sI (rA x i.a)) rfl eV eV (fun _ => Int.natCast_nonneg _)) ?_
  refine Y1 (Yv.convW rfl Tryz.underlying2 kd_22 eV) ?_
  refine Y1 (Yv.assign rfl eV) ?_
  refine ya ?_
  refine AW.ret (retI (.tmp rfl (.tmp rfl .nil)) ?_)
  rw [valueF, if_neg (by omega), if_neg (by omega), if_neg (by omega), if_neg (by omega), if_neg (by omega), if_neg (by omega), if_neg (by omega), if_neg (by omega), if_neg (by omega), if_neg (by omega), if_neg (by omega), if_neg (by omega), if_neg (by omega), if_neg (by omega), if_neg (by omega), if_pos (by omega)]
  exact ⟨rfl, List.sublist_append_left _ _⟩
 try replace h20f := odf h20f
 refine rs (Y1 (Yv.eql rfl eV eV) ?_)
 refine ya ?_
 refine AW.cond rfl (fun h21t => ?_) (fun h21f => ?_)
 ·try replace h21t := odt h21t
  refine rs (yf fo_98_6 ?_)
  refine yl ag_3 6 ?_
  refine ym ?_
  refine ym ?_
  refine AWL.callT rfl rfl (B rfl) rfl ce_67 (E rfl rfl) (evsC (E rfl rfl) (evsC (E rfl rfl) (evsC (E rfl rfl) evs0))) (DHolds68 i.cond (rA x i.a) (rA x i.b)) ?_
  rintro t171 S171 rfl
  refine AWL.callT rfl rfl (B rfl) rfl ce_130 (E rfl rfl) (evsC (E rfl rfl) evs0) (Dnumber95 (holdsF i.cond (rA x i.a) (rA x i.b))) ?_
  rintro t172 S172 rfl
  refine Y1 (Yv.assign rfl eV) ?_
  refine ya ?_
  refine AW.ret (retI (.tmp rfl (.tmp rfl .nil)) ?_)
  rw [valueF, if_neg (by omega), if_neg (by omega), if_neg (by omega), if_neg (by omega), if_neg (by omega), if_neg (by omega), if_neg (by omega), if_neg (by omega), if_neg (by omega), if_neg (by omega), if_neg (by omega), if_neg (by omega), if_neg (by omega), if_neg (by omega), if_neg (by omega), if_neg (by omega), if_pos (by omega)]
  exact ⟨rfl, List.sublist_append_left _ _⟩
 try replace h21f := odf h21f
 refine AW.skip ?_
 refine rs (yf fo_98_7 ?_)
 refine yl ag_3 6 ?_
 refine ym ?_
 refine ym ?_
 refine AWL.callT rfl rfl (B rfl) rfl ce_131 (E rfl rfl) (evsC (E rfl rfl) (evsC (E rfl rfl) (evsC (E rfl rfl) evs0))) (DReal96 i.real (rA x i.a) (rA x i.b) (hre (by omega)).1 (hre (by omega)).2) ?_
 rintro t177 S177 rfl
 refine Y1 (Yv.assign rfl eV) ?_
 refine ya ?_
 refine AW.ret (retI (.tmp rfl (.tmp rfl .nil)) ?_)
 rw [valueF, if_neg (by omega), if_neg (by omega), if_neg (by omega), if_neg (by omega), if_neg (by omega), if_neg (by omega), if_neg (by omega), if_neg (by omega), if_neg (by omega), if_neg (by omega), if_neg (by omega), if_neg (by omega), if_neg (by omega), if_neg (by omega), if_neg (by omega), if_neg (by omega), if_neg (by omega), if_pos (by omega)]
 exact ⟨rfl, List.sublist_append_left _ _⟩

theorem Dvalue72 (s g n c : Nat) (ps : PS) (ob : Bool) (pre : List T) (x : Fr) (a : FA) (i : Ins) (hx : FrOk x) (hk : valK i.kind) (ha : (hasF i.kind).a = true → 0 ≤ i.a ∧ i.a < (x.nr : Int)) (hb : (hasF i.kind).b = true → 0 ≤ i.b ∧ i.b < (x.nr : Int)) (hs : i.kind = 31 → 0 ≤ i.imm ∧ i.imm < (x.ns : Int)) (hre : i.kind = 16 → 1 ≤ i.real ∧ i.real ≤ 8) : ACalls Tryz.prog 71 [pv s, .ep (.slice (some ⟨g, 0, none⟩) n c) pre.length, .agg (insCells i)] ([Ent.box s 75 (psD ps ob (.v (.slice (some ⟨g, 0, none⟩) n c))), Ent.row (some ⟨g, 0, none⟩) n c 116 7 (pre ++ frD x a)] ++ frE x a) (fun t S => t = .tup [zw (valueF realF ps.heap x i).1, bv (valueF realF ps.heap x i).2] ∧ S = [Ent.box s 75 (psD ps ob (.v (.slice (some ⟨g, 0, none⟩) n c))), Ent.row (some ⟨g, 0, none⟩) n c 116 7 (pre ++ frD x a)] ++ frE x a) :=
 (Dvalue72_ s g n c ps ob pre x a i hx hk ha hb hs hre).less fun t S' ⟨h1, h2⟩ => ⟨_, h2, h1, rfl⟩
end Go.Proofs.YtpgbpdnmjeoeoaaGreat

namespace Go.Proofs.YtpgbpdnmjeoeoaaGreat
open Go Go.RowKit

theorem lab_at {bs : List Nat} {j : Nat} (h : j < bs.length) : (bs.map mapT)[j * 1 + 0]? = some (mapT (bs.getD j 0)) := by
 rw [Nat.mul_one, Nat.add_zero, List.getElem?_map, List.getElem?_eq_getElem h]
 simp [h]

end Go.Proofs.YtpgbpdnmjeoeoaaGreat

namespace Go.Proofs.YtpgbpdnmjeoeoaaGreat
open Go Go.RowKit

theorem call_sub {X N C Y : St} : (X ++ N ++ C).Sublist (X ++ N ++ (C ++ Y)) := (List.sublist_append_left C Y).append_left _
theorem has_a23 {k : Int} (h : k = 23 ∨ k = 25) : (hasF k).a = true := by rcases h with rfl | rfl <;> rfl
theorem has_f {k : Int} (h : k = 22 ∨ k = 24) : (hasF k).f = true := by rcases h with rfl | rfl <;> rfl
theorem callee_23 {p : Prog} {x : Fr} {i : Ins} (h : i.kind = 23 ∨ i.kind = 25) (hb : badTo p x i = false) : calleeF p x i = some (toN x i).toNat := by
 rw [calleeF, if_pos h, if_neg (by rw [hb]; decide)]
theorem callee_22 {p : Prog} {x : Fr} {i : Ins} (h : ¬ (i.kind = 23 ∨ i.kind = 25)) : calleeF p x i = some i.f.toNat := by rw [calleeF, if_neg h]
theorem wI_len {n : Nat} (h : n ≤ 1048576) : (wI (n : Int)).toNat = n := by
 have := wI_nat (n : Int)
 rw [wrap_u64] at this
 omega
theorem to_lt' {p : Prog} {x : Fr} {i : Ins} (hpf : p.funs.length ≤ 1048576) (h : ¬ wI (p.funs.length : Int) ≤ toN x i) : (toN x i).toNat < p.funs.length := by
 have h1 : toN x i < wI (p.funs.length : Int) := BitVec.not_le.1 h
 rw [BitVec.lt_def, wI_len hpf] at h1
 exact h1
theorem callee_in {p : Prog} {x : Fr} {i : Ins} {f : Nat} (hp : ProgOk p) (hpf : p.funs.length ≤ 1048576) (hf : (hasF i.kind).f = true → (0 ≤ i.f ∧ i.f.toNat < p.funs.length) ∧ (i.args.length : Int) = parF p i.f) (hkd : i.kind = 22 ∨ i.kind = 23 ∨ i.kind = 24 ∨ i.kind = 25) (h : calleeF p x i = some f) :
    f < p.funs.length ∧ ((i.args.map (rA x)).length : Int) ≤ (p.funs.getD f default).regs := by
 rw [List.length_map]
 unfold calleeF at h
 split at h
 ·split at h
  ·cases h
  rename_i hb
  cases h
  have hb' : badTo p x i = false := by simpa using hb
  unfold badTo at hb'
  simp only [Bool.or_eq_false_iff, decide_eq_false_iff_not, Bool.not_eq_false', decide_eq_true_eq] at hb'
  have h1 := to_lt' hpf hb'.1.2
  have h2 := (hp.fn _ (getD_mem h1)).par2
  exact ⟨h1, by have := hb'.2; omega⟩
 cases h
 obtain ⟨h1, h2⟩ := hf (has_f (by omega))
 have h3 := (hp.fn _ (getD_mem h1.2)).par2
 unfold parF at h2
 exact ⟨h1.2, by omega⟩
theorem fn_regs {p : Prog} {f : Nat} (hp : ProgOk p) (hf : f < p.funs.length) : 0 ≤ (p.funs.getD f default).regs ∧ (p.funs.getD f default).regs ≤ 65536 ∧ 0 ≤ (p.funs.getD f default).slots ∧ (p.funs.getD f default).slots ≤ 1048576 := by
 have h := hp.fn _ (getD_mem hf)
 have := h.par0
 have := h.par2
 exact ⟨by omega, h.regs, h.slot0, h.slot1⟩
end Go.Proofs.YtpgbpdnmjeoeoaaGreat

namespace Go.Proofs.YtpgbpdnmjeoeoaaGreat
open Go Go.RowKit

theorem to_int {p : Prog} {x : Fr} {i : Ins} (hpf : p.funs.length ≤ 1048576) (h : (toN x i).toNat < p.funs.length) : T.v (.int .i64 (IntKind.i64.wrap ((((rA x i.a - 4194304#64) / 16#64).toNat : Nat) : Int))) = zi ((toN x i).toNat : Int) := by
 show zi (IntKind.i64.wrap (((toN x i).toNat : Nat) : Int)) = _
 rw [IntWalk.i64_in _ (by omega)]
theorem take_preD {pre : List T} {x : Fr} {a : FA} {k : Nat} (h : pre.length = k * 7) : (pre ++ frD x a).take (k * 7) = pre := by rw [List.take_left' h]
theorem callE_rows (s : Bool) (x : Fr) (a : FA) : frE (callF s x) a = [.row a.r x.nr x.nr 22 1 (x.r.map zw), .row a.t x.nr x.nr 4 1 ((if s = true then List.replicate x.nr false else x.set).map bv), .row a.s x.ns x.ns 22 1 (x.slot.map zw), .row a.h x.ns x.ns 4 1 (x.there.map bv)] := rfl
theorem bad_t {p : Prog} {x : Fr} {i : Ins} (h : ((decide (rA x i.a < 4194304#64) || !decide ((rA x i.a - 4194304#64) % 16#64 = 0#64)) || decide (wI (p.funs.length : Int) ≤ (rA x i.a - 4194304#64) / 16#64)) = true) : badTo p x i = true := by
 have h' : ((decide (rA x i.a < 4194304#64) || !decide ((rA x i.a - 4194304#64) % 16#64 = 0#64)) || decide (wI (p.funs.length : Int) ≤ toN x i)) = true := h
 unfold badTo
 rw [h']; rfl
theorem bad_p {p : Prog} {x : Fr} {i : Ins} (h : (!decide ((p.funs.getD (toN x i).toNat default).params = (i.args.length : Int))) = true) : badTo p x i = true := by
 unfold badTo
 rw [h, Bool.or_true]
theorem bad_n {p : Prog} {x : Fr} {i : Ins} (h : ((decide (rA x i.a < 4194304#64) || !decide ((rA x i.a - 4194304#64) % 16#64 = 0#64)) || decide (wI (p.funs.length : Int) ≤ (rA x i.a - 4194304#64) / 16#64)) = false) (h2 : (!decide ((p.funs.getD (toN x i).toNat default).params = (i.args.length : Int))) = false) : badTo p x i = false := by
 have h' : ((decide (rA x i.a < 4194304#64) || !decide ((rA x i.a - 4194304#64) % 16#64 = 0#64)) || decide (wI (p.funs.length : Int) ≤ toN x i)) = false := h
 unfold badTo
 rw [h', h2]; rfl
theorem clr_succ {l : List Bool} {j : Nat} (h : j < l.length) : (List.replicate (j + 1) false ++ l.drop (j + 1)).map bv = ((List.replicate j false ++ l.drop j).map bv).set (j * 1) (bv false) := by
 rw [Nat.mul_one, ← List.map_set, List.set_append_right _ _ (by rw [List.length_replicate]; exact Nat.le_refl _), List.length_replicate, Nat.sub_self, List.drop_eq_getElem_cons h, List.set_cons_zero, List.replicate_succ', List.append_assoc]
 rfl
set_option maxHeartbeats 16000000 in
theorem Dgoes71_ (s g c k : Nat) (ps : PS) (ob : Bool) (pre : List T) (x : Fr) (a : FA) (i : Ins) (hx : FrOk x) (hnr : x.nr ≤ 65536) (hpre : pre.length = k * 7) (hk : k < 1048576) (hkd : i.kind = 22 ∨ i.kind = 23 ∨ i.kind = 24 ∨ i.kind = 25) (hp : ProgOk ps.prog) (hpf : ps.prog.funs.length ≤ 1048576) (ha : (hasF i.kind).a = true → 0 ≤ i.a ∧ i.a < (x.nr : Int)) (har : ∀ r ∈ i.args, 0 ≤ r ∧ r < (x.nr : Int)) (hg : i.args.length ≤ 1048576) (hf : (hasF i.kind).f = true → (0 ≤ i.f ∧ i.f.toNat < ps.prog.funs.length) ∧ (i.args.length : Int) = parF ps.prog i.f) (hat : 0 ≤ x.at_ ∧ x.at_ ≤ 4611686018427387904) :
    ACalls Tryz.prog 70 [pv s, .ep (.slice (some ⟨g, 0, none⟩) (k + 1) c) pre.length, .agg (insCells i)] ([Ent.box s 75 (psD ps ob (.v (.slice (some ⟨g, 0, none⟩) (k + 1) c))), Ent.row (some ⟨g, 0, none⟩) (k + 1) c 116 7 (pre ++ frD x a)] ++ frE x a) (fun t S => match calleeF ps.prog x i with
    | none => t = bv false ∧ ([Ent.box s 75 (psD ps ob (.v (.slice (some ⟨g, 0, none⟩) (k + 1) c))), Ent.row (some ⟨g, 0, none⟩) (k + 1) c 116 7 (pre ++ frD x a)] ++ frE x a).Sublist S
    | some f => if i.kind = 24 ∨ i.kind = 25 then t = bv true ∧ ∃ g' c' a', ([Ent.box s 75 (psD ps ob (.v (.slice (some ⟨g', 0, none⟩) (k + 1) c'))), Ent.row (some ⟨g', 0, none⟩) (k + 1) c' 116 7 (pre ++ frD (openFr (ps.prog.funs.getD f default) f (argsF x i) x.d) a')] ++ frE (openFr (ps.prog.funs.getD f default) f (argsF x i) x.d) a').Sublist S
     else if 1048576 ≤ k + 1 then t = bv false ∧ ([Ent.box s 75 (psD ps ob (.v (.slice (some ⟨g, 0, none⟩) (k + 1) c))), Ent.row (some ⟨g, 0, none⟩) (k + 1) c 116 7 (pre ++ frD x a)] ++ frE x a).Sublist S
     else t = bv true ∧ ∃ g' c' a', ([Ent.box s 75 (psD ps ob (.v (.slice (some ⟨g', 0, none⟩) (k + 2) c'))), Ent.row (some ⟨g', 0, none⟩) (k + 2) c' 116 7 (pre ++ frD (callF ps.strict x) a ++ frD (openFr (ps.prog.funs.getD f default) f (argsF x i) i.d) a')] ++ frE (openFr (ps.prog.funs.getD f default) f (argsF x i) i.d) a' ++ frE (callF ps.strict x) a).Sublist S) := by
 have hl1 := hx.r
 have hl3 := hx.t
 obtain ⟨hat0, hat1⟩ := hat
 refine ACalls.intro Tryz.func70 rfl Tryz.ntmps70 nB rfl fun X w0 => ?_
 refine rs ?_
 refine AWL.boxOp rfl rfl (B rfl) rfl (E rfl rfl) rfl (fun b5 => ?_)
 refine ya ?_
 refine rs (yf fo_98_5 ?_)
 refine yl ag_3 6 ?_
 refine ya ?_
 refine AW.mid (α := Nat) (fun f => [(0, true, pv s), (1, true, .ep (.slice (some ⟨g, 0, none⟩) (k + 1) c) pre.length), (5, true, pv b5), (7, true, .v (.int .i64 (f : Int)))]) (fun _ => ([Ent.box s 75 (psD ps ob (.v (.slice (some ⟨g, 0, none⟩) (k + 1) c))), Ent.row (some ⟨g, 0, none⟩) (k + 1) c 116 7 (pre ++ frD x a)] ++ frE x a) ++ [Ent.box b5 98 (insCells i)]) (fun f => calleeF ps.prog x i = some f) ?_ ?_
 ·refine rs (yf fo_98_0 ?_)
  refine yl ag_3 6 ?_
  refine Y1 (Yv.eql rfl eV eV) ?_
  refine ym ?_
  refine gF (Yv.fieldBox rfl fo_98_0 eV) ?_
  refine gF (Yv.loadBox rfl ag_3 (i := 6) rfl (Eg rfl rfl id) rfl) ?_
  refine gF (Yv.eql rfl (Eg rfl rfl id) eV) ?_
  refine Y1 (Yv.pickOr (t := .const (.bool true)) rfl eV (Eg rfl rfl id)) (nl ?_)
  refine AW.cond rfl (fun h0t => ?_) (fun h0f => ?_)
  ·try replace h0t := odt h0t
   have hk23 : i.kind = 23 ∨ i.kind = 25 := by simpa using h0t
   obtain ⟨ha0, ha1⟩ := ha (has_a23 hk23)
   refine AW.rseqQ rfl (by kernel_rfl) ?_
   refine qm ?_
   refine Q1 (Yv.nilChkEp rfl eV) ?_
   refine Q1 (Yv.fieldEp rfl fo_116_2 eV) ?_
   refine Q1 (Yv.loadEp rfl ag_32 (i := 1) rfl eV (fun hg => fd2)) ?_
   refine qf fo_98_2 ?_
   refine ql ag_3 6 ?_
   refine Q1 (Yv.indexRow (j := i.a.toNat) rfl ss_32 (i := 2) rfl eV eV (fun hg => ⟨(Int.toNat_of_nonneg (by omega)).symm, by omega⟩)) ?_
   refine Q1 (Yv.loadEp rfl ag_22 (i := 2) rfl eV (fun hg => word_at (by omega))) ?_
   refine Q1 (Yv.assign rfl eV) ?_
   refine AWQ.nil ?_
   refine AW.seq ?_
   refine rs (ym ?_)
   refine Y1 (Yv.lssW (b := 4194304#64) rfl eV eV) ?_
   refine ym ?_
   refine gF (Yv.move rfl eV) ?_
   refine gF (Yv.subW (b := 4194304#64) rfl (Eg rfl rfl id) eV) ?_
   refine gF (Yv.remW (b := 16#64) rfl (Eg rfl rfl id) (E rfl rfl) (by decide)) ?_
   refine gF (Yv.neqW (b := 0#64) rfl (Eg rfl rfl id) eV) ?_
   refine Y1 (Yv.pickOr (t := .const (.bool true)) rfl eV (Eg rfl rfl id)) ?_
   refine ym ?_
   refine gF (Yv.move rfl eV) ?_
   refine gF (Yv.subW (b := 4194304#64) rfl (Eg rfl rfl id) eV) ?_
   refine gF (Yv.quoW (b := 16#64) rfl (Eg rfl rfl id) (E rfl rfl) (by decide)) ?_
   refine gF (Yv.move rfl eV) ?_
   refine gF (Yv.nilChk rfl (Eg rfl rfl id)) ?_
   refine gF (Yv.fieldBox rfl fo_75_0 (Eg rfl rfl id)) ?_
   refine gF (Yv.fieldBox rfl fo_56_0 (Eg rfl rfl id)) ?_
   refine gF (Yv.loadBox rfl ag_53 (i := 0) rfl (Eg rfl rfl id) rfl) ?_
   refine gF (Yv.lenSl rfl so_53 (B rfl) (Eg rfl rfl id) len_funs) ?_
   refine gF (Yv.convW rfl Tryz.underlying3 kd_22 (Eg rfl rfl id)) ?_
   refine gF (Yv.geqW rfl (Eg rfl rfl id) (Eg rfl rfl id)) ?_
   refine Y1 (Yv.pickOr (t := .const (.bool true)) rfl eV (Eg rfl rfl id)) (nl ?_)
   refine AW.cond rfl (fun h1t => ?_) (fun h1f => ?_)
   ·try replace h1t := odt h1t
    have hbad : badTo ps.prog x i = true := bad_t h1t
    refine ra ?_
    refine AW.ret (retI (.tmp rfl .nil) ?_)
    rw [show calleeF ps.prog x i = none by rw [calleeF, if_pos hk23, if_pos hbad]]
    exact ⟨rfl, List.sublist_append_left _ _⟩
   try replace h1f := odf h1f
   have htl : (toN x i).toNat < ps.prog.funs.length := to_lt' hpf (of_decide_eq_false (Bool.or_eq_false_iff.1 h1f).2)
   refine AW.skip ?_
   refine rs (ym ?_)
   refine Y1 (Yv.subW (b := 4194304#64) rfl eV eV) ?_
   refine Y1 (Yv.quoW (b := 16#64) rfl (E rfl rfl) (E rfl rfl) (by decide)) ?_
   refine Y1 (Yv.eqT (Yv.conv rfl Tryz.underlying22 kd_3 eV) (to_int hpf htl)) ?_
   refine ya ?_
   refine AW.rseqQ rfl (by kernel_rfl) ?_
   refine qm ?_
   refine Q1 (Yv.nilChk rfl eV) ?_
   refine qf fo_75_0 ?_
   refine qf fo_56_0 ?_
   refine ql ag_53 0 ?_
   refine qm ?_
   refine Q1 (Yv.indexSl (j := (toN x i).toNat) rfl ss_53 (B rfl) eV eV (fun hg => ⟨rfl, by rw [len_funs]; omega⟩)) ?_
   refine Q1 (Yv.fieldRp rfl fo_93_1 eV) ?_
   refine Q1 (Yv.loadRp rfl ag_3 eV (fun hg => fpar_at htl)) ?_
   refine qf fo_98_10 ?_
   refine ql ag_35 6 ?_
   refine Q1 (Yv.lenSl rfl so_35 (B rfl) eV len_args) ?_
   refine Q1 (Yv.neq rfl eV eV) ?_
   refine AWQ.nil ?_
   refine AW.cond rfl (fun h2t => ?_) (fun h2f => ?_)
   ·try replace h2t := odt h2t
    have hbad : badTo ps.prog x i = true := bad_p h2t
    refine ra ?_
    refine AW.ret (retI (.tmp rfl .nil) ?_)
    rw [show calleeF ps.prog x i = none by rw [calleeF, if_pos hk23, if_pos hbad]]
    exact ⟨rfl, List.sublist_append_left _ _⟩
   try replace h2f := odf h2f
   have hgood : badTo ps.prog x i = false := bad_n h1f h2f
   refine AW.skip ?_
   refine ⟨(toN x i).toNat, ?_, (su (su (su (su sn)))), rfl⟩
   exact callee_23 hk23 hgood
  try replace h0f := odf h0f
  have hk22 : ¬ (i.kind = 23 ∨ i.kind = 25) := by simpa using h0f
  refine AW.skip ?_
  refine ⟨i.f.toNat, ?_, (su (su (su (Sub.cons rfl (by rw [Int.toNat_of_nonneg (hf (has_f (by omega))).1.1]; rfl) Sub.nil)))), rfl⟩
  exact callee_22 (by omega)
 rintro f hcal
 have hcf := callee_in hp hpf hf hkd hcal
 have hfo := fn_regs hp hcf.1
 refine ra ?_
 refine AW.rowNil 22 1 ?_
 refine AW.seq ?_
 refine ra ?_
 refine AW.block ?_
 refine AW.loop3 (fun (j : Nat) (A : Option Addr) (c2 : Nat) => [(0, true, pv s), (1, true, .ep (.slice (some ⟨g, 0, none⟩) (k + 1) c) pre.length), (5, true, pv b5), (7, true, .v (.int .i64 (f : Int))), (9, true, .v (.slice A j c2)), (10, true, .v (.int .i64 (j : Int)))]) (fun (j : Nat) (A : Option Addr) (c2 : Nat) => (([Ent.box s 75 (psD ps ob (.v (.slice (some ⟨g, 0, none⟩) (k + 1) c))), Ent.row (some ⟨g, 0, none⟩) (k + 1) c 116 7 (pre ++ frD x a)] ++ frE x a) ++ [Ent.box b5 98 (insCells i), Ent.row A j c2 22 1 (((i.args.take j).map (rA x)).map zw)])) (fun (j : Nat) (A : Option Addr) (c2 : Nat) => j ≤ i.args.length) (fun (j : Nat) (A : Option Addr) (c2 : Nat) => i.args.length - j) 0 none 0 ?_ ?_ ?_ ?_
 ·exact Nat.zero_le _
 ·exact (su (su (su (su (su (su sn))))))
 ·rfl
 intro j A c2 hinv
 refine AW.seq ?_
 refine rs (ym ?_)
 refine yf fo_98_10 ?_
 refine yl ag_35 6 ?_
 refine Y1 (Yv.lenSl rfl so_35 (B rfl) eV len_args) ?_
 refine Y1 (Yv.lss rfl eV eV) (nl ?_)
 refine AW.cond rfl (fun h3t => ?_) (fun h3f => ?_)
 ·try replace h3t := odt h3t
  have hj : j < i.args.length := by omega
  have hjr := har _ (getD_mem (l := i.args) hj)
  refine AW.skip ?_
  refine AW.seq ?_
  refine AW.block ?_
  refine AW.regionP rfl ?_
  refine T1 (i := 0) rfl (freeMove rfl (E rfl rfl)) ?_
  refine AWP.phase [false, true, true, true, true, true, true, true, true, true, true, true] 3 rfl (by kernel_rfl) (by kernel_rfl) ?_
  refine qm ?_
  refine Q1 (Yv.nilChkEp rfl eV) ?_
  refine Q1 (Yv.fieldEp rfl fo_116_2 eV) ?_
  refine Q1 (Yv.loadEp rfl ag_32 (i := 1) rfl eV (fun hg => fd2)) ?_
  refine qf fo_98_10 ?_
  refine ql ag_35 6 ?_
  refine qm ?_
  refine Q1 (Yv.indexSl rfl ss_35 (B rfl) eV eV (fun hg => ⟨rfl, (by first | omega | (simp only [len_code, len_funs, len_args, len_data, len_zw]; omega))⟩)) ?_
  refine Q1 (Yv.loadRp rfl ag_3 eV (fun hg => arg_at (by omega))) ?_
  refine Q1 (Yv.indexRow (j := (i.args.getD j default).toNat) rfl ss_32 (i := 2) rfl eV eV (fun hg => ⟨(Int.toNat_of_nonneg (by omega)).symm, by omega⟩)) ?_
  refine Q1 (Yv.loadEp rfl ag_22 (i := 2) rfl eV (fun hg => word_at (by omega))) ?_
  refine AWQ.nil ?_
  refine p1 12 ?_
  refine AWL.buildSlice1 rfl rfl (B rfl) rfl el_32 rfl (evsC (E rfl rfl) evs0) nB rfl rfl (nl ?_)
  refine p1 13 ?_
  refine AWL.appendRow (i := 7) rfl rfl (B rfl) rfl el_32 (B rfl) rfl (E rfl rfl) (SrcT.sl so_32 (B rfl) (E rfl rfl) rfl) (by unfold maxLen; omega) (by omega) (fun A89 c89 => ?_)
  refine nl ?_
  refine p1 14 ?_
  refine ya ?_
  refine AWP.done (by kernel_rfl) ?_
  refine AW.region ?_
  refine ym ?_
  refine Y1 (Yv.addN_i64 rfl eV eV (fun hg => by omega)) ?_
  refine ya ?_
  refine ⟨j + 1, A89, c89, by omega, by omega, (su (su (su (su (su (Sub.cons rfl (by simp) Sub.nil)))))), ?_⟩
  rw [take_gd (show j < i.args.length by omega), List.map_append, List.map_append]
  rfl
 try replace h3f := odf h3f
 obtain rfl : j = i.args.length := by omega
 refine AW.exit ?_
 refine AW.seq ?_
 refine rs (yf fo_98_0 ?_)
 refine yl ag_3 6 ?_
 refine Y1 (Yv.eql rfl eV eV) ?_
 refine ym ?_
 refine gF (Yv.fieldBox rfl fo_98_0 eV) ?_
 refine gF (Yv.loadBox rfl ag_3 (i := 6) rfl (Eg rfl rfl id) rfl) ?_
 refine gF (Yv.eql rfl (Eg rfl rfl id) eV) ?_
 refine Y1 (Yv.pickOr (t := .const (.bool true)) rfl eV (Eg rfl rfl id)) (nl ?_)
 refine AW.cond rfl (fun h4t => ?_) (fun h4f => ?_)
 ·try replace h4t := odt h4t
  have hk24 : i.kind = 24 ∨ i.kind = 25 := by simpa using h4t
  refine rs (ym ?_)
  refine Y1 (Yv.nilChkEp rfl eV) ?_
  refine Y1 (Yv.fieldEp rfl fo_116_6 eV) ?_
  refine Y1 (Yv.loadEp rfl ag_3 (i := 1) rfl eV (fun hg => fd6)) ?_
  refine ya ?_
  refine AW.rowLe 1 rfl (fun hkc => ?_)
  refine AW.rseqP rfl ?_
  refine AWP.phase [true, true, true, true, true, true, true, true, true, true, true, true, true, true] 1 rfl (by kernel_rfl) (by kernel_rfl) ?_
  refine qm ?_
  refine qm ?_
  refine Q1 (Yv.nilChk rfl eV) ?_
  refine qf fo_75_6 ?_
  refine ql ag_73 0 ?_
  refine qm ?_
  refine Q1 (Yv.nilChk rfl eV) ?_
  refine qf fo_75_6 ?_
  refine ql ag_73 0 ?_
  refine Q1 (Yv.lenV rfl so_73 eV) ?_
  refine Q1 (Yv.subN_i64 rfl eV eV (fun hg => by omega)) ?_
  refine Q1 (Yv.sliceRow0 (i := 1) (m := k) rfl ss_73 rfl eV (Bound.some_ eV (fun hg => by omega)) (fun hg => by omega)) ?_
  refine Q1 (Yv.nilChk rfl eV) ?_
  refine qf fo_75_6 ?_
  refine AWQ.nil ?_
  refine p1 14 ?_
  refine AWL.storeBox (i := 0) rfl rfl rfl ag_73 rfl (E rfl rfl) (E rfl rfl) rfl rfl nB (nl ?_)
  refine AWP.done (by kernel_rfl) ?_
  refine AW.shrink 1 k rfl (by omega) ?_
  refine AW.eqS (S' := ([Ent.box s 75 (psD ps ob (.v (.slice (some ⟨g, 0, none⟩) k c))), Ent.row (some ⟨g, 0, none⟩) k c 116 7 (pre)] ++ frE x a) ++ [Ent.box b5 98 (insCells i), Ent.row A i.args.length c2 22 1 (((i.args.take i.args.length).map (rA x)).map zw)]) (by
   rw [take_preD hpre]
   rfl) ?_
  rw [List.take_length]
  refine AW.freeze 7 9 rfl (B rfl) rfl ?_
  refine rs (ym ?_)
  refine ym ?_
  refine ym ?_
  refine ym ?_
  refine C1 rfl ce_40 (E rfl rfl) (evsC (E rfl rfl) (evsC (E rfl rfl) (evsC (E rfl rfl) (evsC (E rfl rfl) evs0)))) (S1 := [Ent.box s 75 (psD ps ob (.v (.slice (some ⟨g, 0, none⟩) k c))), Ent.row (some ⟨g, 0, none⟩) k c 116 7 (pre)]) (S2 := _) rfl (Dopen43 s ps ob f (i.args.map (rA x)) x.d (some ⟨g, 0, none⟩) k c pre hcf.1 hpf hfo.1 hfo.2.1 hfo.2.2.1 hfo.2.2.2 hcf.2 (by omega)) ?_
  rintro t120 S120 ⟨rfl, g2, c3, a2, rfl⟩
  refine nl ?_
  refine ra ?_
  refine AW.ret (retI (.tmp rfl .nil) ?_)
  rw [hcal]
  simp only [if_pos hk24]
  exact ⟨rfl, g2, c3, a2, List.sublist_append_left _ _⟩
 try replace h4f := odf h4f
 have hk24 : ¬ (i.kind = 24 ∨ i.kind = 25) := by simpa using h4f
 refine AW.skip ?_
 refine AW.seq ?_
 refine rs (ym ?_)
 refine Y1 (Yv.nilChk rfl eV) ?_
 refine yf fo_75_6 ?_
 refine yl ag_73 0 ?_
 refine Y1 (Yv.lenV rfl so_73 eV) ?_
 refine Y1 (Yv.geq rfl eV eV) (nl ?_)
 refine AW.cond rfl (fun h5t => ?_) (fun h5f => ?_)
 ·try replace h5t := odt h5t
  refine ra ?_
  refine AW.ret (retI (.tmp rfl .nil) ?_)
  rw [hcal]
  simp only [if_neg hk24]
  rw [if_pos (by omega)]
  exact ⟨rfl, List.sublist_append_left _ _⟩
 try replace h5f := odf h5f
 refine AW.skip ?_
 refine rs (ym ?_)
 refine Y1 (Yv.nilChkEp rfl eV) ?_
 refine Y1 (Yv.fieldEp rfl fo_116_1 eV) ?_
 refine Y1 (Yv.loadEp rfl ag_3 (i := 1) rfl eV (fun hg => fd1)) ?_
 refine Y1 (Yv.addN_i64 rfl eV eV (fun hg => by omega)) ?_
 refine Y1 (Yv.nilChkEp rfl eV) ?_
 refine Y1 (Yv.fieldEp rfl fo_116_1 eV) ?_
 refine AWL.storeEp1 (i := 1) rfl rfl rfl ag_3 rfl (E rfl rfl) (E rfl rfl) rfl rfl (by rw [fd_len]; omega) (nl ?_)
 refine AW.eqS (S' := ([Ent.box s 75 (psD ps ob (.v (.slice (some ⟨g, 0, none⟩) (k + 1) c))), Ent.row (some ⟨g, 0, none⟩) (k + 1) c 116 7 (pre ++ frD (goF x) a)] ++ frE x a) ++ [Ent.box b5 98 (insCells i), Ent.row A i.args.length c2 22 1 (((i.args.take i.args.length).map (rA x)).map zw)]) (by rw [show (pre ++ frD (goF x) a) = (pre ++ frD x a).set (pre.length + 1) (zi (x.at_ + 1)) from (fd_jump _).symm]; rfl) ?_
 refine AW.seq ?_
 refine rs (ym ?_)
 refine Y1 (Yv.nilChk rfl eV) ?_
 refine yf fo_75_3 ?_
 refine yl ag_4 0 (nl ?_)
 refine AW.cond rfl (fun h6t => ?_) (fun h6f => ?_)
 ·try replace h6t := odt h6t
  refine ra ?_
  refine AW.block ?_
  refine AW.loop (fun (j : Nat) => [(0, true, pv s), (1, true, .ep (.slice (some ⟨g, 0, none⟩) (k + 1) c) pre.length), (5, true, pv b5), (7, true, .v (.int .i64 (f : Int))), (9, true, .v (.slice A i.args.length c2)), (12, true, .v (.int .i64 (j : Int)))]) (fun (j : Nat) => ([Ent.box s 75 (psD ps ob (.v (.slice (some ⟨g, 0, none⟩) (k + 1) c))), Ent.row (some ⟨g, 0, none⟩) (k + 1) c 116 7 (pre ++ frD (goF x) a)] ++ [.row a.r x.nr x.nr 22 1 (x.r.map zw), .row a.t x.nr x.nr 4 1 ((List.replicate j false ++ x.set.drop j).map bv), .row a.s x.ns x.ns 22 1 (x.slot.map zw), .row a.h x.ns x.ns 4 1 (x.there.map bv)]) ++ [Ent.box b5 98 (insCells i), Ent.row A i.args.length c2 22 1 (((i.args.take i.args.length).map (rA x)).map zw)]) (fun (j : Nat) => j ≤ x.nr) (fun (j : Nat) => x.nr - j) 0 ?_ ?_ ?_ ?_
  ·exact Nat.zero_le _
  ·exact (su (su (su (su (su (su sn))))))
  ·rfl
  intro j hinv
  refine AW.seq ?_
  refine rs (ym ?_)
  refine ym ?_
  refine Y1 (Yv.nilChkEp rfl eV) ?_
  refine Y1 (Yv.fieldEp rfl fo_116_3 eV) ?_
  refine Y1 (Yv.loadEp rfl ag_114 (i := 1) rfl eV (fun hg => fd3)) ?_
  refine Y1 (Yv.lenV rfl so_114 eV) ?_
  refine Y1 (Yv.lss rfl eV eV) (nl ?_)
  refine AW.cond rfl (fun h7t => ?_) (fun h7f => ?_)
  ·try replace h7t := odt h7t
   have e9 : (goF x).nr = x.nr := rfl
   have hjr : j < x.nr := by omega
   refine AW.skip ?_
   refine AW.seq ?_
   refine AW.block ?_
   refine AW.region ?_
   refine ym ?_
   refine Y1 (Yv.nilChkEp rfl eV) ?_
   refine Y1 (Yv.fieldEp rfl fo_116_3 eV) ?_
   refine Y1 (Yv.loadEp rfl ag_114 (i := 1) rfl eV (fun hg => fd3)) ?_
   refine ym ?_
   refine Y1 (Yv.indexRow (j := j) rfl ss_114 (i := 3) rfl eV eV (fun hg => ⟨rfl, hjr⟩)) ?_
   refine AWL.storeEp1 (i := 3) rfl rfl rfl ag_4 rfl (E rfl rfl) (E rfl rfl) rfl rfl (by rw [List.length_map, List.length_append, List.length_replicate, List.length_drop]; omega) (nl ?_)
   refine AW.region ?_
   refine ym ?_
   refine Y1 (Yv.addN_i64 rfl eV eV (fun hg => by omega)) ?_
   refine ya ?_
   refine ⟨j + 1, by omega, by omega, (su (su (su (su (su (Sub.cons rfl (by simp) Sub.nil)))))), ?_⟩
   rw [clr_succ (show j < x.set.length by omega)]
   rfl
  try replace h7f := odf h7f
  have e9 : (goF x).nr = x.nr := rfl
  obtain rfl : j = x.nr := by omega
  refine AW.eqS (S' := ([Ent.box s 75 (psD ps ob (.v (.slice (some ⟨g, 0, none⟩) (k + 1) c))), Ent.row (some ⟨g, 0, none⟩) (k + 1) c 116 7 (pre ++ frD (callF ps.strict x) a)] ++ frE (callF ps.strict x) a) ++ [Ent.box b5 98 (insCells i), Ent.row A i.args.length c2 22 1 (((i.args.take i.args.length).map (rA x)).map zw)]) (by
   rw [callE_rows, if_pos h6t, List.drop_of_length_le (by omega), List.append_nil]
   rfl) ?_
  rw [List.take_length]
  refine AW.freeze 7 9 rfl (B rfl) rfl ?_
  refine AW.exit ?_
  refine rs (ym ?_)
  refine ym ?_
  refine ym ?_
  refine yf fo_98_1 ?_
  refine yl ag_3 6 ?_
  refine C1 rfl ce_40 (E rfl rfl) (evsC (E rfl rfl) (evsC (E rfl rfl) (evsC (E rfl rfl) (evsC (E rfl rfl) evs0)))) (S1 := [Ent.box s 75 (psD ps ob (.v (.slice (some ⟨g, 0, none⟩) (k + 1) c))), Ent.row (some ⟨g, 0, none⟩) (k + 1) c 116 7 (pre ++ frD (callF ps.strict x) a)]) (S2 := _) rfl (Dopen43 s ps ob f (i.args.map (rA x)) i.d (some ⟨g, 0, none⟩) (k + 1) c (pre ++ frD (callF ps.strict x) a) hcf.1 hpf hfo.1 hfo.2.1 hfo.2.2.1 hfo.2.2.2 hcf.2 (by omega)) ?_
  rintro t158 S158 ⟨rfl, g2, c3, a2, rfl⟩
  refine nl ?_
  refine ra ?_
  refine AW.ret (retI (.tmp rfl .nil) ?_)
  rw [hcal]
  simp only [if_neg hk24]
  rw [if_neg (by omega)]
  refine ⟨rfl, g2, c3, a2, ?_⟩
  exact call_sub
 try replace h6f := odf h6f
 refine AW.eqS (S' := ([Ent.box s 75 (psD ps ob (.v (.slice (some ⟨g, 0, none⟩) (k + 1) c))), Ent.row (some ⟨g, 0, none⟩) (k + 1) c 116 7 (pre ++ frD (callF ps.strict x) a)] ++ frE (callF ps.strict x) a) ++ [Ent.box b5 98 (insCells i), Ent.row A i.args.length c2 22 1 (((i.args.take i.args.length).map (rA x)).map zw)]) (by
  rw [callE_rows, if_neg (by rw [h6f]; decide)]
  rfl) ?_
 rw [List.take_length]
 refine AW.freeze 7 9 rfl (B rfl) rfl ?_
 refine AW.skip ?_
 refine rs (ym ?_)
 refine ym ?_
 refine ym ?_
 refine yf fo_98_1 ?_
 refine yl ag_3 6 ?_
 refine C1 rfl ce_40 (E rfl rfl) (evsC (E rfl rfl) (evsC (E rfl rfl) (evsC (E rfl rfl) (evsC (E rfl rfl) evs0)))) (S1 := [Ent.box s 75 (psD ps ob (.v (.slice (some ⟨g, 0, none⟩) (k + 1) c))), Ent.row (some ⟨g, 0, none⟩) (k + 1) c 116 7 (pre ++ frD (callF ps.strict x) a)]) (S2 := _) rfl (Dopen43 s ps ob f (i.args.map (rA x)) i.d (some ⟨g, 0, none⟩) (k + 1) c (pre ++ frD (callF ps.strict x) a) hcf.1 hpf hfo.1 hfo.2.1 hfo.2.2.1 hfo.2.2.2 hcf.2 (by omega)) ?_
 rintro t158 S158 ⟨rfl, g2, c3, a2, rfl⟩
 refine nl ?_
 refine ra ?_
 refine AW.ret (retI (.tmp rfl .nil) ?_)
 rw [hcal]
 simp only [if_neg hk24]
 rw [if_neg (by omega)]
 refine ⟨rfl, g2, c3, a2, ?_⟩
 exact call_sub

end Go.Proofs.YtpgbpdnmjeoeoaaGreat

namespace Go.Proofs.YtpgbpdnmjeoeoaaGreat
open Go Go.RowKit

theorem V.readV_len {nb : Nat} {p : V.PW} (h : V.RP nb p) (fd n : Int) : (V.readV fd n p).1.length ≤ nb := by
 unfold V.readV
 split
 ·have := h.pb.sin
  rw [List.length_take]; omega
 split
 ·simp only [List.length_take, List.length_drop]
  cases hg : V.getP (p.opn.getD fd.toNat default).name p.files with
  | none => simp
  | some b =>
   have := h.pb.fl _ (V.getP_mem hg)
   simp only [Option.getD_some]
   dsimp only at this
   omega
 exact Nat.zero_le _

theorem bytes_len (m : Mf) (a : Wd64) (n : Nat) : (bytesAt m a n).length = n := by unfold bytesAt; simp
theorem bytes_succ (m : Mf) (a : Wd64) (k : Nat) : bytesAt m a (k + 1) = bytesAt m a k ++ [m (a + wI (k : Int))] := by
 unfold bytesAt
 rw [List.range_succ, List.map_append]; rfl
theorem u8_is0 {x : UInt8} (h : ((x.toNat : Nat) : Int) = 0) : x = 0 := UInt8.toNat_inj.1 (by show x.toNat = 0; omega)
theorem u8_not0 {x : UInt8} (h : ¬ ((x.toNat : Nat) : Int) = 0) : ¬ x = 0 := fun e => h (by rw [e]; rfl)
theorem wI_succ (k : Nat) : wI (k : Int) + 1#64 = wI ((k + 1 : Nat) : Int) := by
 unfold wI
 rw [BitVec.ofInt_natCast, BitVec.ofInt_natCast]
 apply BitVec.eq_of_toNat_eq
 simp
theorem wI_small {k : Nat} (h : k ≤ 256) : (wI (k : Int)).toNat = k := by
 have := wI_nat (k : Int)
 rw [wrap_u64] at this
 omega
theorem wI_lt {k : Nat} (h : wI (k : Int) < 256#64) (hk : k ≤ 256) : k < 256 := by
 rw [BitVec.lt_def, wI_small hk] at h
 exact h
theorem wI_nlt {k : Nat} (hk : k ≤ 256) (h : ¬ wI (k : Int) < 256#64) : k = 256 := by
 rw [BitVec.lt_def, wI_small hk] at h
 have : ¬ k < 256 := h
 omega

end Go.Proofs.YtpgbpdnmjeoeoaaGreat

namespace Go.Proofs.YtpgbpdnmjeoeoaaGreat
open Go Go.RowKit
theorem side_pb {n : Nat} {r d : V.PW} (h : V.Side r d) (hr : V.PB n r) : V.PB n d :=
 ⟨by rw [h.opn]; exact hr.opn, by rw [h.trace]; exact hr.tr, by rw [h.trace]; exact hr.txt, fun f hf => hr.fl f (h.files.mem_iff.2 hf), by rw [h.opn]; exact hr.pl, by rw [h.stdin]; exact hr.sin, by rw [← h.files.length_eq]; exact hr.nf⟩
theorem side_nm {r d : V.PW} (h : V.Side r d) (hr : V.Named r) : V.Named d := by
 refine ⟨by rw [h.opn]; exact hr.1, fun q hq hk => ?_⟩
 rw [h.get]
 rw [h.opn] at hq
 exact hr.2 q hq hk
theorem le_max (a : Wd64) {k : Nat} (hk : k < 256) : decide (a ≤ 18446744073709551615#64 - wI (k : Int)) = !decide (a + wI (k : Int) < a) := by
 have h1 := wI_small (k := k) (by omega)
 have ha := a.isLt
 have e1 : (18446744073709551615#64 - wI (k : Int)).toNat = 18446744073709551615 - k := by
  rw [BitVec.toNat_sub, h1]
  show (18446744073709551616 - k + 18446744073709551615) % 18446744073709551616 = _
  omega
 have e2 : (a + wI (k : Int)).toNat = (a.toNat + k) % 18446744073709551616 := by rw [BitVec.toNat_add, h1]
 rw [Bool.eq_iff_iff]
 simp only [decide_eq_true_eq, Bool.not_eq_true', decide_eq_false_iff_not]
 rw [BitVec.le_def, BitVec.lt_def, e1, e2]
 omega
theorem name_t {a : Wd64} {k : Nat} {b : Bool} (hk : k < 256) (h : (!(decide (a ≤ 18446744073709551615#64 - wI (k : Int)) && b)) = true) : decide (a + wI (k : Int) < a) = true ∨ b = false := by
 rw [le_max a hk] at h
 generalize decide (a + wI (k : Int) < a) = d at h ⊢
 cases d <;> cases b <;> simp_all
theorem name_f {a : Wd64} {k : Nat} {b : Bool} (hk : k < 256) (h : (!(decide (a ≤ 18446744073709551615#64 - wI (k : Int)) && b)) = false) : ¬ (decide (a + wI (k : Int) < a) = true ∨ b = false) := by
 rw [le_max a hk] at h
 generalize decide (a + wI (k : Int) < a) = d at h ⊢
 cases d <;> cases b <;> simp_all
end Go.Proofs.YtpgbpdnmjeoeoaaGreat

namespace Go.Proofs.YtpgbpdnmjeoeoaaGreat
open Go Go.RowKit

set_option maxHeartbeats 4000000 in
theorem Dname92_ (s pg db : Nat) (cc : Pc) (ob : Bool) (lab cl : T) (l : List Pg) (ds : V.DS) (p : V.PW) (nb : Nat) (hl : PgOk l) (hd : cc.prog.data.length ≤ 1048576) (hz0 : 0 ≤ cc.prog.zero) (hz1 : cc.prog.zero ≤ 268435456) (hs : V.Side p (V.pl ds)) (hw : V.RP nb p) (hnb : nb ≤ 549755813888) (a : Wd64) (fl : Int) :
    ACalls Tryz.prog 127 [pv s, zw a, zi fl] ((Ent.box s 75 (psD (psOf cc lab (V.wp db) (mapT pg)) ob cl) :: memE 121 pg l) ++ V.DSt db ds) (fun t S => t = zi (opM cc (getM l) p a fl).n ∧ ∃ ds' ob', (((Ent.box s 75 (psD (psOf cc lab (V.wp db) (mapT pg)) ob' cl) :: memE 121 pg l) ++ V.DSt db ds')).Sublist S ∧ getM l = (opM cc (getM l) p a fl).mem ∧ V.Side (opM cc (getM l) p a fl).w (V.pl ds')) := by
 refine ACalls.intro Tryz.func127 rfl Tryz.ntmps127 nB rfl fun X w0 => ?_
 refine ra ?_
 refine ra ?_
 refine AW.rowNil 5 1 ?_
 refine AW.perm (List.perm_append_singleton _ _).symm ?_
 refine AW.seq ?_
 refine ra ?_
 refine AW.block ?_
 refine AW.loop4 (fun (k : Nat) (acc : List UInt8) (A : Option Addr) (c : Nat) => [(0, true, pv s), (1, true, zw a), (2, true, zi fl), (7, true, .v (.slice A acc.length c)), (8, true, zw (wI (k : Int)))]) (fun (k : Nat) (acc : List UInt8) (A : Option Addr) (c : Nat) => (Ent.row A acc.length c 5 1 (acc.map u8) :: ((Ent.box s 75 (psD (psOf cc lab (V.wp db) (mapT pg)) ob cl) :: memE 121 pg l) ++ V.DSt db ds))) (fun (k : Nat) (acc : List UInt8) (A : Option Addr) (c : Nat) => (k ≤ 256 ∧ acc.length = k) ∧ nameF (fun z => thereC cc z 1#64) (getM l) a (256 - k) k acc = nameF (fun z => thereC cc z 1#64) (getM l) a 256 0 []) (fun (k : Nat) (acc : List UInt8) (A : Option Addr) (c : Nat) => 256 - k) 0 ([]) none 0 ?_ ?_ ?_ ?_
 ·exact ⟨⟨by decide, rfl⟩, rfl⟩
 ·exact (su (su (su (su (su sn)))))
 ·rfl
 intro k acc A c ⟨⟨hk0, hacc⟩, hnm⟩
 refine AW.seq ?_
 refine rs (ym ?_)
 refine Y1 (Yv.lssW (b := 256#64) rfl eV eV) (nl ?_)
 refine AW.cond rfl (fun h0t => ?_) (fun h0f => ?_)
 ·try replace h0t := odt h0t
  have hk6 : k < 256 := wI_lt h0t hk0
  refine AW.skip ?_
  refine AW.seq ?_
  refine AW.block ?_
  refine AW.perm (S' := Ent.box s 75 (psD (psOf cc lab (V.wp db) (mapT pg)) ob cl) :: Ent.row A acc.length c 5 1 (acc.map u8) :: (memE 121 pg l ++ V.DSt db ds)) (List.Perm.swap _ _ _) ?_
  refine rs (ym ?_)
  refine ym ?_
  refine Y1 (Yv.subW (a := 18446744073709551615#64) rfl eV eV) ?_
  refine Y1 (Yv.leqW rfl eV eV) ?_
  refine ym ?_
  refine gT (Yv.move rfl eV) ?_
  refine gT (Yv.move rfl eV) ?_
  refine gT (Yv.move rfl eV) ?_
  refine gT (Yv.addW rfl (Eg rfl rfl id) (Eg rfl rfl id)) ?_
  refine AWL.callKgT rfl rfl rfl rfl (B rfl) rfl ce_28 (E rfl rfl) (evsC (Eg rfl rfl id) (evsC (Eg rfl rfl id) (evsC (E rfl rfl) evs0))) (S1 := [Ent.box s 75 (psD (psOf cc lab (V.wp db) (mapT pg)) ob cl)]) (S2 := _) rfl (fun hg => DThere45 s (psOf cc lab (V.wp db) (mapT pg)) ob cl (a + wI (k : Int)) 1#64 hd hz0 hz1) (fun t S h => h) ?_
  refine Y1 (Yv.pickAnd rfl eV (Eg rfl rfl id)) ?_
  refine ya ?_
  refine AW.perm (S' := Ent.row A acc.length c 5 1 (acc.map u8) :: ((Ent.box s 75 (psD (psOf cc lab (V.wp db) (mapT pg)) ob cl) :: memE 121 pg l) ++ V.DSt db ds)) (List.Perm.swap _ _ _) ?_
  refine AW.seq ?_
  refine rs (ym ?_)
  refine Y1 (Yv.not rfl eV) (nl ?_)
  refine AW.cond rfl (fun h1t => ?_) (fun h1f => ?_)
  ·try replace h1t := odt h1t
   have hth : decide ((a + wI (k : Int)) < a) = true ∨ (fun z => thereC cc z 1#64) (a + wI (k : Int)) = false := name_t hk6 h1t
   refine rs (ym ?_)
   refine Y1 (Yv.nilChk rfl eV) ?_
   refine yf fo_75_12 ?_
   refine AWL.storeBox (i := 1) rfl rfl rfl ag_4 rfl (E rfl rfl) (E rfl rfl) rfl rfl nB (nl ?_)
   refine ra ?_
   refine AW.ret (retI (.tmp rfl .nil) ?_)
   have hn : nameF (fun z => thereC cc z 1#64) (getM l) a 256 0 [] = .bad := by rw [← hnm, show 256 - k = (256 - (k + 1)) + 1 by omega, nameF, if_pos hth]
   rw [opM, hn]
   exact ⟨rfl, ds, true, List.sublist_cons_self _ _, rfl, hs⟩
  try replace h1f := odf h1f
  have hth : ¬ (decide ((a + wI (k : Int)) < a) = true ∨ (fun z => thereC cc z 1#64) (a + wI (k : Int)) = false) := name_f hk6 h1f
  refine AW.skip ?_
  refine rs (ym ?_)
  refine ym ?_
  refine ym ?_
  refine Y1 (Yv.addW rfl eV eV) ?_
  refine AWL.callKP rfl rfl (B rfl) rfl ce_44 (E rfl rfl) (evsC (E rfl rfl) (evsC (E rfl rfl) evs0)) (S1 := (Ent.box s 75 (psD (psOf cc lab (V.wp db) (mapT pg)) ob cl) :: memE 121 pg l)) (S2 := (Ent.row A acc.length c 5 1 (acc.map u8) :: V.DSt db ds)) (List.perm_middle (a := Ent.row A acc.length c 5 1 (acc.map u8)) (l₁ := (Ent.box s 75 (psD (psOf cc lab (V.wp db) (mapT pg)) ob cl) :: memE 121 pg l)) (l₂ := V.DSt db ds)).symm (Dget48 s pg (psOf cc lab (V.wp db) (mapT pg)) ob cl l rfl hl (a + wI (k : Int))) (fun t S h => h) ?_
  refine ya ?_
  refine AW.seq ?_
  refine rs (ym ?_)
  refine Y1 (Yv.eql rfl eV eV) (nl ?_)
  refine AW.cond rfl (fun h2t => ?_) (fun h2f => ?_)
  ·try replace h2t := odt h2t
   have h0 : getM l (a + wI (k : Int)) = 0 := u8_is0 h2t
   refine AW.rseqP rfl ?_
   refine AWP.phase [true, true, true, true, true, true, true] 2 rfl (by kernel_rfl) (by kernel_rfl) ?_
   refine qm ?_
   refine Q1 (Yv.nilChk rfl eV) ?_
   refine qf fo_75_4 ?_
   refine ql ag_60 1 ?_
   refine qm ?_
   refine Q1 (Yv.bytesStrRow (i := 0) rfl by_54 st_9 rfl eV) ?_
   refine qm ?_
   refine AWQ.nil ?_
   refine p1 7 ?_
   refine cE ce_139 (Ent.row A acc.length c 5 1 (acc.map u8) :: (Ent.box s 75 (psD (psOf cc lab (V.wp db) (mapT pg)) ob cl) :: memE 121 pg l)) (V.DSt db ds) rfl rfl rfl (V.SysOpen37 db ds nb (side_pb hs hw.pb) (by omega) acc fl (by omega)) ?_
   rintro t45 S45 ⟨rfl, ds2, hds2, rfl⟩
   refine nl ?_
   refine p1 8 ?_
   refine ya ?_
   refine AWP.done (by kernel_rfl) ?_
   refine AW.ret (retI (.tmp rfl .nil) ?_)
   have hn : nameF (fun z => thereC cc z 1#64) (getM l) a 256 0 [] = .is acc := by rw [← hnm, show 256 - k = (256 - (k + 1)) + 1 by omega, nameF, if_neg hth, if_pos h0]
   rw [opM, hn]
   exact ⟨congrArg zi (hs.openV acc fl), ds2, ob, List.sublist_cons_self _ _, rfl, hs.openD hds2⟩
  try replace h2f := odf h2f
  replace h2f : ¬ getM l (a + wI (k : Int)) = 0 := u8_not0 h2f
  refine AW.skip ?_
  refine AW.region ?_
  refine ym ?_
  refine ym ?_
  refine AWL.buildSlice1 rfl rfl (B rfl) rfl el_54 rfl (evsC (E rfl rfl) evs0) nB rfl rfl ?_
  refine AWL.appendRow (i := 0) rfl rfl (B rfl) rfl el_54 (B rfl) rfl (E rfl rfl) (SrcT.sl so_54 (B rfl) (E rfl rfl) rfl) (by unfold maxLen; omega) (by omega) (fun A49 c49 => ?_)
  refine ya ?_
  refine AW.region ?_
  refine ym ?_
  refine Y1 (Yv.addW (b := 1#64) rfl eV eV) ?_
  refine ya ?_
  refine ⟨k + 1, acc ++ [getM l (a + wI (k : Int))], A49, c49, ⟨⟨by omega, by rw [List.length_append, hacc]; rfl⟩, ?_⟩, by omega, (su (su (su (Sub.cons rfl (by rw [List.length_append]; rfl) (Sub.cons rfl (by rw [← wI_succ]) Sub.nil))))), ?_⟩
  ·rw [← hnm, show 256 - k = (256 - (k + 1)) + 1 by omega, nameF, if_neg hth, if_neg h2f]
  rw [List.length_append, List.map_append]
  rfl
 try replace h0f := odf h0f
 have hk6 : k = 256 := wI_nlt hk0 h0f
 refine AW.exit ?_
 refine ra ?_
 refine AW.ret (retI (.tmp rfl .nil) ?_)
 have hn : nameF (fun z => thereC cc z 1#64) (getM l) a 256 0 [] = .long := by rw [← hnm, hk6]; rfl
 rw [opM, hn]
 exact ⟨rfl, ds, ob, List.sublist_cons_self _ _, rfl, hs⟩

theorem Dname92 (s pg db : Nat) (cc : Pc) (ob : Bool) (lab cl : T) (l : List Pg) (ds : V.DS) (p : V.PW) (nb : Nat) (hl : PgOk l) (hd : cc.prog.data.length ≤ 1048576) (hz0 : 0 ≤ cc.prog.zero) (hz1 : cc.prog.zero ≤ 268435456) (hs : V.Side p (V.pl ds)) (hw : V.RP nb p) (hnb : nb ≤ 549755813888) (a : Wd64) (fl : Int) : ACalls Tryz.prog 127 [pv s, zw a, zi fl] ((Ent.box s 75 (psD (psOf cc lab (V.wp db) (mapT pg)) ob cl) :: memE 121 pg l) ++ V.DSt db ds) (fun t S => t = zi (opM cc (getM l) p a fl).n ∧ ∃ l' ds' ob', S = ((Ent.box s 75 (psD (psOf cc lab (V.wp db) (mapT pg)) ob' cl) :: memE 121 pg l') ++ V.DSt db ds') ∧ PgOk l' ∧ getM l' = (opM cc (getM l) p a fl).mem ∧ V.Side (opM cc (getM l) p a fl).w (V.pl ds')) :=
 (Dname92_ s pg db cc ob lab cl l ds p nb hl hd hz0 hz1 hs hw hnb a fl).less fun t S' ⟨h1, ds', ob', h2, h3, h4⟩ => ⟨_, h2, h1, l, ds', ob', rfl, hl, h3, h4⟩
end Go.Proofs.YtpgbpdnmjeoeoaaGreat

namespace Go.Proofs.YtpgbpdnmjeoeoaaGreat
open Go Go.RowKit

theorem okS_rd2 (x : Fr) (i : Ins) : okS x.set (rd2 i) = ((!(hasF i.kind).a || x.set.getD i.a.toNat default) && (!(hasF i.kind).b || x.set.getD i.b.toNat default)) := by
 unfold rd2 rd1
 rw [okS_app]
 cases (hasF i.kind).a <;> cases (hasF i.kind).b <;> simp [okS]
theorem rd_bad {x : Fr} {i : Ins} (h : ((hasF i.kind).a = true ∧ x.set.getD i.a.toNat default = false) ∨ ((hasF i.kind).b = true ∧ x.set.getD i.b.toNat default = false)) : okS x.set (readsF i) = false := by
 rw [rd3_of, okS_app, okS_rd2]
 rcases h with ⟨h1, h2⟩ | ⟨h1, h2⟩ <;> rw [h1, h2] <;> simp
theorem rdE_ok {x : Fr} {i : Ins} (h : ((hasF i.kind).a = true → x.set.getD i.a.toNat default = true) ∧ ((hasF i.kind).b = true → x.set.getD i.b.toNat default = true)) : okS x.set (rd2 i) = true := by
 rw [okS_rd2]
 obtain ⟨h1, h2⟩ := h
 cases ha : (hasF i.kind).a <;> cases hb : (hasF i.kind).b <;> simp_all
theorem rd_arg {x : Fr} {i : Ins} {k : Nat} (hA : (hasF i.kind).args = true) (hk : k < i.args.length) (h : x.set.getD (i.args.getD k default).toNat default = false) : okS x.set (readsF i) = false := by
 rw [rd3_of, if_pos hA, okS_app]
 have h2 : okS x.set i.args = false := by
  unfold okS
  rw [List.all_eq_false]
  exact ⟨_, getD_mem hk, by rw [h]; decide⟩
 rw [h2, Bool.and_false]
theorem rd_all {x : Fr} {i : Ins} {k : Nat} (h2 : okS x.set (rd2 i) = true) (hk : k ≤ i.args.length) (hka : (hasF i.kind).args = true → okS x.set (i.args.take k) = true) (h : (k : Int) < (i.args.length : Int) → (hasF i.kind).args = false) : okS x.set (readsF i) = true := by
 rw [rd3_of, okS_app, h2, Bool.true_and]
 cases hA : (hasF i.kind).args with
 | false => rfl
 | true =>
  have : ¬ (k : Int) < (i.args.length : Int) := fun q => by rw [h q] at hA; cases hA
  obtain rfl : k = i.args.length := by omega
  have h3 := hka hA
  rw [List.take_length] at h3
  rw [if_pos rfl]; exact h3
set_option maxHeartbeats 16000000 in
theorem DstepV_ (s g n c : Nat) (ps : PS) (ob : Bool) (pre : List T) (x : Fr) (a : FA) (i : Ins) (hx : FrOk x) (hk : valK i.kind ∨ i.kind = 32) (ha : (hasF i.kind).a = true → 0 ≤ i.a ∧ i.a < (x.nr : Int)) (hb : (hasF i.kind).b = true → 0 ≤ i.b ∧ i.b < (x.nr : Int)) (hs : i.kind = 31 ∨ i.kind = 32 → 0 ≤ i.imm ∧ i.imm < (x.ns : Int)) (hre : i.kind = 16 → 1 ≤ i.real ∧ i.real ≤ 8) (hdd : (hasF i.kind).d = true → 0 ≤ i.d ∧ i.d < (x.nr : Int)) (hg : (hasF i.kind).args = true → ∀ r ∈ i.args, 0 ≤ r ∧ r < (x.nr : Int)) (hgl : i.args.length ≤ 1048576) (hat : 0 ≤ x.at_ ∧ x.at_ ≤ 4611686018427387904) :
    ACalls Tryz.prog 47 [pv s, .ep (.slice (some ⟨g, 0, none⟩) n c) pre.length, .agg (insCells i)] ([Ent.box s 75 (psD ps ob (.v (.slice (some ⟨g, 0, none⟩) n c))), Ent.row (some ⟨g, 0, none⟩) n c 116 7 (pre ++ frD x a)] ++ frE x a) (fun t S => t = bv (stepA realF ps.heap x i).isSome ∧ ([Ent.box s 75 (psD ps ob (.v (.slice (some ⟨g, 0, none⟩) n c))), Ent.row (some ⟨g, 0, none⟩) n c 116 7 (pre ++ frD ((stepA realF ps.heap x i).getD x) a)] ++ frE ((stepA realF ps.heap x i).getD x) a).Sublist S) := by
 have hl1 := hx.r
 have hl2 := hx.s
 have hl3 := hx.t
 have hl4 := hx.h
 obtain ⟨hat0, hat1⟩ := hat
 have hkv := hk
 unfold valK at hk
 refine ACalls.intro Tryz.func47 rfl Tryz.ntmps47 nB rfl fun X w0 => ?_
 refine rs ?_
 refine AWL.boxOp rfl rfl (B rfl) rfl (E rfl rfl) rfl (fun b5 => ?_)
 refine ya ?_
 refine rs (yf fo_98_0 ?_)
 refine yl ag_3 6 ?_
 refine AWL.callT rfl rfl (B rfl) rfl ce_65 (E rfl rfl) (evsC (E rfl rfl) evs0) (Of36 i.kind) ?_
 rintro t16 S16 rfl
 refine ym ?_
 refine Y1 (Yv.extract rfl eV rfl) ?_
 refine Y1 (Yv.extract rfl eV rfl) ?_
 refine AWL.allocOp rfl rfl (B rfl) rfl zc_137 (fun b7 => ?_)
 refine AWL.storeBox (i := 7) rfl rfl rfl ag_137 rfl (E rfl rfl) (E rfl rfl) rfl rfl nB ?_
 refine ya ?_
 refine AW.seq ?_
 refine AW.rseqQ rfl (by kernel_rfl) ?_
 refine qf fo_137_1 ?_
 refine ql ag_4 7 ?_
 refine qm ?_
 refine kT (Yv.move rfl eV) ?_
 refine kT (Yv.nilChkEp rfl (Eg rfl rfl id)) ?_
 refine kT (Yv.fieldEp rfl fo_116_3 (Eg rfl rfl id)) ?_
 refine kT (Yv.loadEp rfl ag_114 (i := 1) rfl (Eg rfl rfl id) (fun hg => fd3)) ?_
 refine kT (Yv.fieldBox rfl fo_98_2 eV) ?_
 refine kT (Yv.loadBox rfl ag_3 (i := 6) rfl (Eg rfl rfl id) rfl) ?_
 refine kT (Yv.indexRow (j := i.a.toNat) rfl ss_114 (i := 3) rfl (Eg rfl rfl id) (Eg rfl rfl id) (fun hg => ⟨(Int.toNat_of_nonneg (ha (by simpa using hg)).1).symm, by have h8 := ha (by simpa using hg); omega⟩)) ?_
 refine kT (Yv.loadEp rfl ag_4 (i := 3) rfl (Eg rfl rfl id) (fun hg => bool_at (by have h9 := ha (by simpa using hg); omega))) ?_
 refine kT (Yv.not rfl (Eg rfl rfl id)) ?_
 refine Q1 (Yv.pickAnd rfl eV (Eg rfl rfl id)) ?_
 refine qm ?_
 refine kF (Yv.fieldBox rfl fo_137_2 eV) ?_
 refine kF (Yv.loadBox rfl ag_4 (i := 7) rfl (Eg rfl rfl id) rfl) ?_
 refine kF (Yv.move rfl (Eg rfl rfl id)) ?_
 refine kT (Yv.move rfl eV) ?_
 refine kT (Yv.nilChkEp rfl (Eg rfl rfl id)) ?_
 refine kT (Yv.fieldEp rfl fo_116_3 (Eg rfl rfl id)) ?_
 refine kT (Yv.loadEp rfl ag_114 (i := 1) rfl (Eg rfl rfl id) (fun hg => fd3)) ?_
 refine kT (Yv.fieldBox rfl fo_98_3 eV) ?_
 refine kT (Yv.loadBox rfl ag_3 (i := 6) rfl (Eg rfl rfl id) rfl) ?_
 refine kT (Yv.indexRow (j := i.b.toNat) rfl ss_114 (i := 3) rfl (Eg rfl rfl id) (Eg rfl rfl id) (fun hg => ⟨(Int.toNat_of_nonneg (hb (ar hg)).1).symm, by have h8 := hb (ar hg); omega⟩)) ?_
 refine kT (Yv.loadEp rfl ag_4 (i := 3) rfl (Eg rfl rfl id) (fun hg => bool_at (by have h9 := hb (ar hg); omega))) ?_
 refine kT (Yv.not rfl (Eg rfl rfl id)) ?_
 refine kF (Yv.pickAnd rfl (Eg rfl rfl id) (Eg rfl rfl id)) ?_
 refine Q1 (Yv.pickOr (t := .const (.bool true)) rfl eV (Eg rfl rfl id)) ?_
 refine AWQ.nil ?_
 refine AW.cond rfl (fun h0t => ?_) (fun h0f => ?_)
 ·try replace h0t := odt h0t
  have hbd := rd_bad (x := x) (i := i) (by simpa using h0t)
  refine ra ?_
  refine AW.ret (retI (.tmp rfl .nil) ?_)
  rw [stepA, if_pos hbd]
  exact ⟨rfl, List.sublist_append_left _ _⟩
 try replace h0f := odf h0f
 have hr2 := rdE_ok (x := x) (i := i) (by simpa using h0f)
 refine AW.skip ?_
 refine AW.seq ?_
 refine ra ?_
 refine AW.block ?_
 refine AW.loop (fun (k : Nat) => [(0, true, pv s), (1, true, .ep (.slice (some ⟨g, 0, none⟩) n c) pre.length), (5, true, pv b5), (7, true, pv b7), (9, true, .v (.int .i64 (k : Int)))]) (fun (k : Nat) => (([Ent.box s 75 (psD ps ob (.v (.slice (some ⟨g, 0, none⟩) n c))), Ent.row (some ⟨g, 0, none⟩) n c 116 7 (pre ++ frD x a)] ++ frE x a) ++ [Ent.box b5 98 (insCells i), Ent.box b7 137 (hasCells (hasF i.kind))])) (fun (k : Nat) => k ≤ i.args.length ∧ ((hasF i.kind).args = true → okS x.set (i.args.take k) = true)) (fun (k : Nat) => i.args.length - k) 0 ?_ ?_ ?_ ?_
 ·exact ⟨Nat.zero_le _, fun _ => rfl⟩
 ·exact (su (su (su (su (su sn)))))
 ·rfl
 intro k ⟨hk0, hka⟩
 refine AW.seq ?_
 refine rs (ym ?_)
 refine yf fo_98_10 ?_
 refine yl ag_35 6 ?_
 refine Y1 (Yv.lenSl rfl so_35 (B rfl) eV len_args) ?_
 refine Y1 (Yv.lss rfl eV eV) ?_
 refine ym ?_
 refine gT (Yv.fieldBox rfl fo_137_3 eV) ?_
 refine gT (Yv.loadBox rfl ag_4 (i := 7) rfl (Eg rfl rfl id) rfl) ?_
 refine Y1 (Yv.pickAnd rfl eV (Eg rfl rfl id)) (nl ?_)
 refine AW.cond rfl (fun h1t => ?_) (fun h1f => ?_)
 ·try replace h1t := odt h1t
  have hk1 : k < i.args.length ∧ (hasF i.kind).args = true := by
   have h : (k : Int) < (i.args.length : Int) ∧ (hasF i.kind).args = true := by simpa using h1t
   exact ⟨by omega, h.2⟩
  have hkr := hg hk1.2 _ (getD_mem (l := i.args) hk1.1)
  refine AW.skip ?_
  refine AW.seq ?_
  refine AW.block ?_
  refine AW.rseqQ rfl (by kernel_rfl) ?_
  refine qm ?_
  refine Q1 (Yv.nilChkEp rfl eV) ?_
  refine Q1 (Yv.fieldEp rfl fo_116_3 eV) ?_
  refine Q1 (Yv.loadEp rfl ag_114 (i := 1) rfl eV (fun hg => fd3)) ?_
  refine qf fo_98_10 ?_
  refine ql ag_35 6 ?_
  refine qm ?_
  refine Q1 (Yv.indexSl rfl ss_35 (B rfl) eV eV (fun hg => ⟨rfl, (by first | omega | (simp only [len_code, len_funs, len_args, len_data, len_zw]; omega))⟩)) ?_
  refine Q1 (Yv.loadRp rfl ag_3 eV (fun hg => arg_at (by omega))) ?_
  refine Q1 (Yv.indexRow (j := (i.args.getD k default).toNat) rfl ss_114 (i := 3) rfl eV eV (fun hg => ⟨(Int.toNat_of_nonneg hkr.1).symm, by omega⟩)) ?_
  refine Q1 (Yv.loadEp rfl ag_4 (i := 3) rfl eV (fun hg => bool_at (by omega))) ?_
  refine Q1 (Yv.not rfl eV) ?_
  refine AWQ.nil ?_
  refine AW.cond rfl (fun h2t => ?_) (fun h2f => ?_)
  ·try replace h2t := odt h2t
   have hbd := rd_arg (x := x) (i := i) hk1.2 hk1.1 (by simpa using h2t)
   refine ra ?_
   refine AW.ret (retI (.tmp rfl .nil) ?_)
   rw [stepA, if_pos hbd]
   exact ⟨rfl, List.sublist_append_left _ _⟩
  try replace h2f := odf h2f
  refine AW.skip ?_
  refine AW.region ?_
  refine ym ?_
  refine Y1 (Yv.addN_i64 rfl eV eV (fun hg => by omega)) ?_
  refine ya ?_
  refine ⟨k + 1, ⟨by omega, fun h => ?_⟩, by omega, (su (su (su (su (Sub.cons rfl (by simp) Sub.nil))))), rfl⟩
  rw [take_gd hk1.1, okS_app, hka h, okS_one, Bool.true_and]
  simpa using h2f
 try replace h1f := odf h1f
 have hok := rd_all hr2 hk0 hka (by simpa using h1f)
 refine AW.exit ?_
 refine AW.seq ?_
 refine rs (yf fo_98_0 ?_)
 refine yl ag_3 6 (nl ?_)
 refine AW.block ?_
 refine rs (Y1 (Yv.eql rfl eV eV) ?_)
 refine ya ?_
 refine AW.cond rfl (fun h3t => ?_) (fun h3f => ?_)
 ·try replace h3t := odt h3t
  exfalso; omega
 try replace h3f := odf h3f
 refine rs (Y1 (Yv.eql rfl eV eV) ?_)
 refine ya ?_
 refine AW.cond rfl (fun h4t => ?_) (fun h4f => ?_)
 ·try replace h4t := odt h4t
  exfalso; omega
 try replace h4f := odf h4f
 refine rs (Y1 (Yv.eql rfl eV eV) ?_)
 refine ya ?_
 refine AW.cond rfl (fun h5t => ?_) (fun h5f => ?_)
 ·try replace h5t := odt h5t
  exfalso; omega
 try replace h5f := odf h5f
 refine rs (Y1 (Yv.eql rfl eV eV) ?_)
 refine ya ?_
 refine AW.cond rfl (fun h6t => ?_) (fun h6f => ?_)
 ·try replace h6t := odt h6t
  obtain ⟨hs0, hs1⟩ := hs (.inr h6t)
  obtain ⟨ha0, ha1⟩ := ha (by rw [h6t]; rfl)
  refine AW.rseqP rfl ?_
  refine AWP.phase [true, true, true, true, true, true, true, true, true, true, true, true, true, true, true] 1 rfl (by kernel_rfl) (by kernel_rfl) ?_
  refine qm ?_
  refine Q1 (Yv.nilChkEp rfl eV) ?_
  refine Q1 (Yv.fieldEp rfl fo_116_4 eV) ?_
  refine Q1 (Yv.loadEp rfl ag_32 (i := 1) rfl eV (fun hg => fd4)) ?_
  refine qf fo_98_9 ?_
  refine ql ag_2 6 ?_
  refine qm ?_
  refine Q1 (Yv.nilChkEp rfl eV) ?_
  refine Q1 (Yv.fieldEp rfl fo_116_2 eV) ?_
  refine Q1 (Yv.loadEp rfl ag_32 (i := 1) rfl eV (fun hg => fd2)) ?_
  refine qf fo_98_2 ?_
  refine ql ag_3 6 ?_
  refine Q1 (Yv.indexRow (j := i.a.toNat) rfl ss_32 (i := 2) rfl eV eV (fun hg => ⟨(Int.toNat_of_nonneg (by omega)).symm, by omega⟩)) ?_
  refine Q1 (Yv.loadEp rfl ag_22 (i := 2) rfl eV (fun hg => word_at (by omega))) ?_
  refine Q1 (Yv.indexRow (j := i.imm.toNat) rfl ss_32 (i := 4) rfl eV eV (fun hg => ⟨(Int.toNat_of_nonneg (by omega)).symm, by omega⟩)) ?_
  refine AWQ.nil ?_
  refine p1 15 ?_
  refine AWL.storeEp1 (i := 4) rfl rfl rfl ag_22 rfl (E rfl rfl) (E rfl rfl) rfl rfl (by rw [List.length_map]; omega) (nl ?_)
  refine AWP.done (by kernel_rfl) ?_
  refine AW.rseqP rfl ?_
  refine AWP.phase [true, true, true, true, true, true, true] 1 rfl (by kernel_rfl) (by kernel_rfl) ?_
  refine qm ?_
  refine Q1 (Yv.nilChkEp rfl eV) ?_
  refine Q1 (Yv.fieldEp rfl fo_116_5 eV) ?_
  refine Q1 (Yv.loadEp rfl ag_114 (i := 1) rfl eV (fun hg => fd5)) ?_
  refine qf fo_98_9 ?_
  refine ql ag_2 6 ?_
  refine Q1 (Yv.indexRow (j := i.imm.toNat) rfl ss_114 (i := 5) rfl eV eV (fun hg => ⟨(Int.toNat_of_nonneg (by omega)).symm, by omega⟩)) ?_
  refine AWQ.nil ?_
  refine p1 7 ?_
  refine AWL.storeEp1 (i := 5) rfl rfl rfl ag_4 rfl (E rfl rfl) (E rfl rfl) rfl rfl (by rw [List.length_map]; omega) (nl ?_)
  refine AWP.done (by kernel_rfl) ?_
  refine rs (ym ?_)
  refine Y1 (Yv.nilChkEp rfl eV) ?_
  refine Y1 (Yv.fieldEp rfl fo_116_1 eV) ?_
  refine Y1 (Yv.loadEp rfl ag_3 (i := 1) rfl eV (fun hg => fd1)) ?_
  refine Y1 (Yv.addN_i64 rfl eV eV (fun hg => by omega)) ?_
  refine Y1 (Yv.nilChkEp rfl eV) ?_
  refine Y1 (Yv.fieldEp rfl fo_116_1 eV) ?_
  refine AWL.storeEp1 (i := 1) rfl rfl rfl ag_3 rfl (E rfl rfl) (E rfl rfl) rfl rfl (by rw [fd_len]; omega) (nl ?_)
  refine ra ?_
  refine AW.ret (retI (.tmp rfl .nil) ?_)
  rw [stepA, if_neg (by rw [hok]; decide), if_pos h6t]
  refine ⟨rfl, ?_⟩
  refine (List.sublist_append_left ([Ent.box s 75 (psD ps ob (.v (.slice (some ⟨g, 0, none⟩) n c))), Ent.row (some ⟨g, 0, none⟩) n c 116 7 (pre ++ frD (goF (putF x i)) a)] ++ frE (goF (putF x i)) a) [Ent.box b5 98 (insCells i), Ent.box b7 137 (hasCells (hasF i.kind))]).trans ?_
  rw [show frE (goF (putF x i)) a = frE (putF x i) a from rfl, putE_rows, show frD (goF (putF x i)) a = frD (goF x) a from rfl, show goF x = { x with at_ := x.at_ + 1 } from rfl, ← fd_jump]
  exact List.Sublist.refl _
 try replace h6f := odf h6f
 have hvk : valK i.kind := hkv.resolve_right h6f
 refine rs (Y1 (Yv.eql rfl eV eV) ?_)
 refine ya ?_
 refine AW.cond rfl (fun h7t => ?_) (fun h7f => ?_)
 ·try replace h7t := odt h7t
  exfalso; omega
 try replace h7f := odf h7f
 refine rs (Y1 (Yv.eql rfl eV eV) ?_)
 refine ya ?_
 refine AW.cond rfl (fun h8t => ?_) (fun h8f => ?_)
 ·try replace h8t := odt h8t
  exfalso; omega
 try replace h8f := odf h8f
 refine AW.seq ?_
 refine rs (Y1 (Yv.eql rfl eV eV) ?_)
 refine ya ?_
 refine AW.cond rfl (fun h9t => ?_) (fun h9f => ?_)
 ·try replace h9t := odt h9t
  exfalso; omega
 try replace h9f := odf h9f
 refine rs (Y1 (Yv.eql rfl eV eV) ?_)
 refine ya ?_
 refine AW.cond rfl (fun h10t => ?_) (fun h10f => ?_)
 ·try replace h10t := odt h10t
  exfalso; omega
 try replace h10f := odf h10f
 refine rs (Y1 (Yv.eql rfl eV eV) ?_)
 refine ya ?_
 refine AW.cond rfl (fun h11t => ?_) (fun h11f => ?_)
 ·try replace h11t := odt h11t
  exfalso; omega
 try replace h11f := odf h11f
 refine AW.region ?_
 refine Y1 (Yv.eql rfl eV eV) ?_
 refine ya ?_
 refine AW.cond rfl (fun h12t => ?_) (fun h12f => ?_)
 ·try replace h12t := odt h12t
  exfalso; omega
 try replace h12f := odf h12f
 refine AW.skip ?_
 refine rs (ym ?_)
 refine ym ?_
 refine Y1 (Yv.loadBoxA rfl ag_98 (i := 6) rfl eV rfl rfl) ?_
 refine C1 rfl ce_71 (E rfl rfl) (evsC (E rfl rfl) (evsC (E rfl rfl) (evsC (E rfl rfl) evs0))) (S1 := ([Ent.box s 75 (psD ps ob (.v (.slice (some ⟨g, 0, none⟩) n c))), Ent.row (some ⟨g, 0, none⟩) n c 116 7 (pre ++ frD x a)] ++ frE x a)) (S2 := _) rfl (Dvalue72 s g n c ps ob pre x a i hx hvk ha hb (fun h => hs (.inl h)) hre) ?_
 rintro t230 S230 ⟨rfl, rfl⟩
 refine ym ?_
 refine Y1 (Yv.extract rfl eV rfl) ?_
 refine Y1 (Yv.extract rfl eV rfl) ?_
 refine Y1 (Yv.assign rfl eV) ?_
 refine ya ?_
 refine AW.seq ?_
 refine rs (ym ?_)
 refine Y1 (Yv.not rfl eV) (nl ?_)
 refine AW.cond rfl (fun h13t => ?_) (fun h13f => ?_)
 ·try replace h13t := odt h13t
  refine ra ?_
  refine AW.ret (retI (.tmp rfl .nil) ?_)
  rw [stepA, if_neg (by rw [hok]; decide), if_neg h6f, if_neg (by simpa using h13t)]
  exact ⟨rfl, List.sublist_append_left _ _⟩
 try replace h13f := odf h13f
 refine AW.skip ?_
 obtain ⟨hd0, hd1⟩ := hdd (has_d hvk)
 refine AW.rseqP rfl ?_
 refine AWP.phase [true, true, true, true, true, true, true, true] 1 rfl (by kernel_rfl) (by kernel_rfl) ?_
 refine qm ?_
 refine Q1 (Yv.nilChkEp rfl eV) ?_
 refine Q1 (Yv.fieldEp rfl fo_116_2 eV) ?_
 refine Q1 (Yv.loadEp rfl ag_32 (i := 1) rfl eV (fun hg => fd2)) ?_
 refine qf fo_98_1 ?_
 refine ql ag_3 6 ?_
 refine qm ?_
 refine Q1 (Yv.indexRow (j := i.d.toNat) rfl ss_32 (i := 2) rfl eV eV (fun hg => ⟨(Int.toNat_of_nonneg (by omega)).symm, by omega⟩)) ?_
 refine AWQ.nil ?_
 refine p1 8 ?_
 refine AWL.storeEp1 (i := 2) rfl rfl rfl ag_22 rfl (E rfl rfl) (E rfl rfl) rfl rfl (by rw [List.length_map]; omega) (nl ?_)
 refine AWP.done (by kernel_rfl) ?_
 refine AW.rseqP rfl ?_
 refine AWP.phase [true, true, true, true, true, true, true] 1 rfl (by kernel_rfl) (by kernel_rfl) ?_
 refine qm ?_
 refine Q1 (Yv.nilChkEp rfl eV) ?_
 refine Q1 (Yv.fieldEp rfl fo_116_3 eV) ?_
 refine Q1 (Yv.loadEp rfl ag_114 (i := 1) rfl eV (fun hg => fd3)) ?_
 refine qf fo_98_1 ?_
 refine ql ag_3 6 ?_
 refine Q1 (Yv.indexRow (j := i.d.toNat) rfl ss_114 (i := 3) rfl eV eV (fun hg => ⟨(Int.toNat_of_nonneg (by omega)).symm, by omega⟩)) ?_
 refine AWQ.nil ?_
 refine p1 7 ?_
 refine AWL.storeEp1 (i := 3) rfl rfl rfl ag_4 rfl (E rfl rfl) (E rfl rfl) rfl rfl (by rw [List.length_map]; omega) (nl ?_)
 refine AWP.done (by kernel_rfl) ?_
 refine rs (ym ?_)
 refine Y1 (Yv.nilChkEp rfl eV) ?_
 refine Y1 (Yv.fieldEp rfl fo_116_1 eV) ?_
 refine Y1 (Yv.loadEp rfl ag_3 (i := 1) rfl eV (fun hg => fd1)) ?_
 refine Y1 (Yv.addN_i64 rfl eV eV (fun hg => by omega)) ?_
 refine Y1 (Yv.nilChkEp rfl eV) ?_
 refine Y1 (Yv.fieldEp rfl fo_116_1 eV) ?_
 refine AWL.storeEp1 (i := 1) rfl rfl rfl ag_3 rfl (E rfl rfl) (E rfl rfl) rfl rfl (by rw [fd_len]; omega) (nl ?_)
 refine ra ?_
 refine AW.ret (retI (.tmp rfl .nil) ?_)
 rw [stepA, if_neg (by rw [hok]; decide), if_neg h6f, if_pos (by simpa using h13f)]
 refine ⟨rfl, ?_⟩
 refine (List.sublist_append_left ([Ent.box s 75 (psD ps ob (.v (.slice (some ⟨g, 0, none⟩) n c))), Ent.row (some ⟨g, 0, none⟩) n c 116 7 (pre ++ frD (goF (setD x i.d (valueF realF ps.heap x i).1)) a)] ++ frE (goF (setD x i.d (valueF realF ps.heap x i).1)) a) [Ent.box b5 98 (insCells i), Ent.box b7 137 (hasCells (hasF i.kind))]).trans ?_
 rw [show frE (goF (setD x i.d (valueF realF ps.heap x i).1)) a = frE (setD x i.d (valueF realF ps.heap x i).1) a from rfl, setE_rows, show frD (goF (setD x i.d (valueF realF ps.heap x i).1)) a = frD (goF x) a from rfl, show goF x = { x with at_ := x.at_ + 1 } from rfl, ← fd_jump]
 exact List.Sublist.refl _

end Go.Proofs.YtpgbpdnmjeoeoaaGreat
