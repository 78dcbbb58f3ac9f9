/-
  TEXTS JOINED: VWk19, VRg, Wz, We0, Wf, Wk32, Wk33, Zk3, Zb, Zk4, Zk5, Zk6, Wk25, Wk26.
-/
import Derived.Test.YtpgbpdnmjeoeoaaGreatYe
set_option linter.unusedSimpArgs false
set_option linter.unusedVariables false
set_option linter.unusedSectionVars false
set_option linter.unnecessarySimpa false
namespace Go.Proofs.YtpgbpdnmjeoeoaaGreat.V
open Go Go.RowKit

set_option maxHeartbeats 2000000 in
theorem DNew21 (stdin : List UInt8) (files : List (List UInt8 × List UInt8)) (hl : files.length ≤ 549755813888) (hn : ∀ x ∈ files, x.1.length ≤ 1099511627776) (hd : ∀ x ∈ files, x.2.length ≤ 1099511627776) :
    ACalls Tryz.prog 21 [worldT stdin files] [] (fun t S => ∃ b ds, t = wp b ∧ S = DSt b ds ∧ ds.stdin = stdin ∧ ds.opn = opn0 ∧ ds.trace = [] ∧ NI (nF files) (ds.files.map nb)) := by
 refine ACalls.intro Tryz.func21 rfl Tryz.ntmps21 nB rfl fun X w0 => ?_
 refine rs ?_
 refine AWL.boxOp rfl rfl (B rfl) rfl (E rfl rfl) rfl (fun b1 => ?_)
 refine ya ?_
 refine rs (yf fo_64_0 ?_)
 refine yl ag_9 0 ?_
 refine Y1 (Yv.buildS rfl sh_84 (evpC eV evp0) (fun _ => rfl)) ?_
 refine AWL.boxOp rfl rfl (B rfl) rfl (E rfl rfl) rfl (fun b10 => ?_)
 refine ya ?_
 refine AW.rowNil 141 2 ?_
 refine AW.rowNil 110 3 ?_
 refine AW.rowNil 86 3 ?_
 refine AW.eqS (S' := .box b1 64 [sv stdin, .sl 2 (files.flatMap fCells)] :: DSt b10 (ds0 [] none 0 stdin)) rfl ?_
 refine AW.seq ?_
 refine ra ?_
 refine AW.block ?_
 refine AW.loop4 (fun (j : Nat) (fs : List FileR) (lA : Option Addr) (lc : Nat) => [(1, true, pv b1), (3, true, wp b10), (4, true, .v (.int .i64 (j : Int)))]) (fun (j : Nat) (fs : List FileR) (lA : Option Addr) (lc : Nat) => (.box b1 64 [sv stdin, .sl 2 (files.flatMap fCells)] :: DSt b10 (ds0 fs lA lc stdin))) (fun (j : Nat) (fs : List FileR) (lA : Option Addr) (lc : Nat) => j ≤ files.length ∧ NI (nF (files.take j)) (fs.map nb)) (fun (j : Nat) (fs : List FileR) (lA : Option Addr) (lc : Nat) => files.length - j) 0 ([]) none 0 ?_ ?_ ?_ ?_
 ·exact ⟨Nat.zero_le _, NI.nil⟩
 ·exact (su (su (su sn)))
 ·rfl
 ·
  intro j fs lA lc hinv
  obtain ⟨hj, hni⟩ := hinv
  have hfl : fs.length ≤ files.length := by
   have h1 := ni_len hni
   rw [List.length_map] at h1
   have h2 := nF_len files j hj
   omega
  refine AW.seq ?_
  refine rs (ym ?_)
  refine yf fo_64_1 ?_
  refine yl ag_62 0 ?_
  refine Y1 (Yv.lenSl rfl so_62 (B rfl) eV len_fc) ?_
  refine Y1 (Yv.lss rfl eV eV) (nl ?_)
  refine AW.cond rfl (fun h0t => ?_) (fun h0f => ?_)
  ·
   try replace h0t := odt h0t
   have hjl : j < files.length := by omega
   have hnj : (files.getD j default).1.length ≤ 1099511627776 := hn _ (getD_mem' hjl)
   have hdj : (files.getD j default).2.length ≤ 1099511627776 := hd _ (getD_mem' hjl)
   refine AW.skip ?_
   refine AW.seq ?_
   refine AW.block ?_
   refine rs (yf fo_64_1 ?_)
   refine yl ag_62 0 ?_
   refine ym ?_
   refine Y1 (Yv.indexSl rfl ss_62 (B rfl) eV eV (fun hg => ⟨rfl, (by first | omega | (simp only [len_fc, len_ev]; omega))⟩)) ?_
   refine Y1 (Yv.fieldRp rfl fo_106_0 eV) ?_
   refine Y1 (Yv.loadRp rfl ag_9 eV (fun hg => fcn_at (by omega))) ?_
   refine AWL.callP rfl rfl (B rfl) rfl ce_41 (E rfl rfl) (evsC (E rfl rfl) evs0) (fits33 (files.getD j default).1 hnj) (fun t S h => h) ?_
   refine ya ?_
   refine rs (ym ?_)
   refine yf fo_64_1 ?_
   refine yl ag_62 0 ?_
   refine ym ?_
   refine Y1 (Yv.indexSl rfl ss_62 (B rfl) eV eV (fun hg => ⟨rfl, (by first | omega | (simp only [len_fc, len_ev]; omega))⟩)) ?_
   refine Y1 (Yv.fieldRp rfl fo_106_0 eV) ?_
   refine Y1 (Yv.loadRp rfl ag_9 eV (fun hg => fcn_at (by omega))) ?_
   refine cE ce_42 [.box b1 64 [sv stdin, .sl 2 (files.flatMap fCells)]] (DSt b10 (ds0 fs lA lc stdin)) rfl rfl rfl (find34F b10 (ds0 fs lA lc stdin) files.length hfl (by omega) (files.getD j default).1) ?_
   rintro t32 S32 ⟨rfl, rfl⟩
   refine ya ?_
   refine rs (ym ?_)
   refine ym ?_
   refine gT (Yv.move rfl eV) ?_
   refine gT (Yv.lss rfl (Eg rfl rfl id) eV) ?_
   refine Y1 (Yv.pickAnd rfl eV (Eg rfl rfl id)) (nl ?_)
   refine AW.cond rfl (fun h1t => ?_) (fun h1f => ?_)
   ·
    try replace h1t := odt h1t
    rw [Bool.and_eq_true, ← fits_eq] at h1t
    have hfits := h1t.1
    have hget : getP (files.getD j default).1 (fs.map nb) = none := by
     rcases findP_get (name := (files.getD j default).1) (l := fs.map nb) with ⟨_, h⟩ | ⟨q, h, _⟩
     ·exact h
     ·exfalso
      have h2 := odt h1t.2
      have h3 : findP (files.getD j default).1 (fs.map nb) < 0 := h2
      rw [h] at h3
      omega
    refine AW.regionP rfl ?_
    refine T1 (i := 0) rfl (freeMove rfl (E rfl rfl)) ?_
    refine T1 (i := 1) rfl (freeField rfl fo_64_1 (E rfl rfl)) ?_
    refine T1 (i := 3) rfl (freeMove rfl (E rfl rfl)) ?_
    refine T1 (i := 7) rfl (freeField rfl fo_64_1 (E rfl rfl)) ?_
    refine T1 (i := 9) rfl (freeMove rfl (E rfl rfl)) ?_
    refine AWP.two (i := 2) (j := 8) (by kernel_rfl) rfl rfl ?_ ?_
    ·
     refine yl ag_62 0 (nl ?_)
     refine T1 (i := 4) rfl (freeIdxSl rfl ss_62 (by decide) (E rfl rfl) (E rfl rfl) ⟨rfl, by rw [len_fc]; omega⟩) ?_
     refine T1 (i := 5) rfl (freeFieldRp rfl fo_106_0 (E rfl rfl)) ?_
     refine AWP.two (i := 6) (j := 8) (by kernel_rfl) rfl rfl ?_ ?_
     ·
      refine Y1 (Yv.loadRp rfl ag_9 eV (fun hg => fcn_at (by omega))) (nl ?_)
      refine p1 8 ?_
      refine yl ag_62 0 (nl ?_)
      refine p1 10 ?_
      refine Y1 (Yv.indexSl rfl ss_62 (B rfl) eV eV (fun hg => ⟨rfl, (by first | omega | (simp only [len_fc, len_ev]; omega))⟩)) (nl ?_)
      refine p1 11 ?_
      refine Y1 (Yv.fieldRp rfl fo_106_1 eV) (nl ?_)
      refine p1 12 ?_
      refine Y1 (Yv.loadRp rfl ag_9 eV (fun hg => fct_at (by omega))) (nl ?_)
      refine p1 13 ?_
      refine AWL.strBytesRow rfl rfl (B rfl) rfl st_9 so_54 kd_5 (E rfl rfl) (by exact Nat.le_trans hdj (by unfold maxLen; decide)) (fun A51 c51 => ?_)
      refine nl ?_
      refine p1 14 ?_
      refine cE ce_43 [.box b1 64 [sv stdin, .sl 2 (files.flatMap fCells)]] (DSt b10 (ds0 fs lA lc stdin) ++ [fileRow ⟨(files.getD j default).1, (files.getD j default).2, A51, c51⟩]) rfl rfl rfl (lay35F b10 (ds0 fs lA lc stdin) files.length hfl (by omega) ⟨(files.getD j default).1, (files.getD j default).2, A51, c51⟩ hdj) ?_
      rintro t52 S52 ⟨rfl, fs1, lA1, lc1, hl1, rfl⟩
      refine nl ?_
      refine AWP.done (by kernel_rfl) ?_
      refine AW.region ?_
      refine ym ?_
      refine Y1 (Yv.addN_i64 rfl eV eV (fun hg => by omega)) ?_
      refine ya ?_
      refine ⟨j + 1, fs1, lA1, lc1, ⟨by omega, hni.add hjl hfits hget hl1⟩, by omega, (su (su (Sub.cons rfl (by simp) Sub.nil))), rfl⟩
     ·
      refine yl ag_62 0 (nl ?_)
      refine T1 (i := 10) rfl (freeIdxSl rfl ss_62 (by decide) (E rfl rfl) (E rfl rfl) ⟨rfl, by rw [len_fc]; omega⟩) ?_
      refine T1 (i := 11) rfl (freeFieldRp rfl fo_106_1 (E rfl rfl)) ?_
      refine AWP.two (i := 6) (j := 12) (by kernel_rfl) rfl rfl ?_ ?_
      ·
       refine Y1 (Yv.loadRp rfl ag_9 eV (fun hg => fcn_at (by omega))) (nl ?_)
       refine p1 12 ?_
       refine Y1 (Yv.loadRp rfl ag_9 eV (fun hg => fct_at (by omega))) (nl ?_)
       refine p1 13 ?_
       refine AWL.strBytesRow rfl rfl (B rfl) rfl st_9 so_54 kd_5 (E rfl rfl) (by exact Nat.le_trans hdj (by unfold maxLen; decide)) (fun A51 c51 => ?_)
       refine nl ?_
       refine p1 14 ?_
       refine cE ce_43 [.box b1 64 [sv stdin, .sl 2 (files.flatMap fCells)]] (DSt b10 (ds0 fs lA lc stdin) ++ [fileRow ⟨(files.getD j default).1, (files.getD j default).2, A51, c51⟩]) rfl rfl rfl (lay35F b10 (ds0 fs lA lc stdin) files.length hfl (by omega) ⟨(files.getD j default).1, (files.getD j default).2, A51, c51⟩ hdj) ?_
       rintro t52 S52 ⟨rfl, fs1, lA1, lc1, hl1, rfl⟩
       refine nl ?_
       refine AWP.done (by kernel_rfl) ?_
       refine AW.region ?_
       refine ym ?_
       refine Y1 (Yv.addN_i64 rfl eV eV (fun hg => by omega)) ?_
       refine ya ?_
       refine ⟨j + 1, fs1, lA1, lc1, ⟨by omega, hni.add hjl hfits hget hl1⟩, by omega, (su (su (Sub.cons rfl (by simp) Sub.nil))), rfl⟩
      ·
       refine Y1 (Yv.loadRp rfl ag_9 eV (fun hg => fct_at (by omega))) (nl ?_)
       refine AWP.two (i := 6) (j := 13) (by kernel_rfl) rfl rfl ?_ ?_
       ·
        refine Y1 (Yv.loadRp rfl ag_9 eV (fun hg => fcn_at (by omega))) (nl ?_)
        refine p1 13 ?_
        refine AWL.strBytesRow rfl rfl (B rfl) rfl st_9 so_54 kd_5 (E rfl rfl) (by exact Nat.le_trans hdj (by unfold maxLen; decide)) (fun A51 c51 => ?_)
        refine nl ?_
        refine p1 14 ?_
        refine cE ce_43 [.box b1 64 [sv stdin, .sl 2 (files.flatMap fCells)]] (DSt b10 (ds0 fs lA lc stdin) ++ [fileRow ⟨(files.getD j default).1, (files.getD j default).2, A51, c51⟩]) rfl rfl rfl (lay35F b10 (ds0 fs lA lc stdin) files.length hfl (by omega) ⟨(files.getD j default).1, (files.getD j default).2, A51, c51⟩ hdj) ?_
        rintro t52 S52 ⟨rfl, fs1, lA1, lc1, hl1, rfl⟩
        refine nl ?_
        refine AWP.done (by kernel_rfl) ?_
        refine AW.region ?_
        refine ym ?_
        refine Y1 (Yv.addN_i64 rfl eV eV (fun hg => by omega)) ?_
        refine ya ?_
        refine ⟨j + 1, fs1, lA1, lc1, ⟨by omega, hni.add hjl hfits hget hl1⟩, by omega, (su (su (Sub.cons rfl (by simp) Sub.nil))), rfl⟩
       ·
        refine AWL.strBytesRow rfl rfl (B rfl) rfl st_9 so_54 kd_5 (E rfl rfl) (by exact Nat.le_trans hdj (by unfold maxLen; decide)) (fun A51 c51 => ?_)
        refine nl ?_
        refine p1 6 ?_
        refine Y1 (Yv.loadRp rfl ag_9 eV (fun hg => fcn_at (by omega))) (nl ?_)
        refine p1 14 ?_
        refine cE ce_43 [.box b1 64 [sv stdin, .sl 2 (files.flatMap fCells)]] (DSt b10 (ds0 fs lA lc stdin) ++ [fileRow ⟨(files.getD j default).1, (files.getD j default).2, A51, c51⟩]) rfl rfl rfl (lay35F b10 (ds0 fs lA lc stdin) files.length hfl (by omega) ⟨(files.getD j default).1, (files.getD j default).2, A51, c51⟩ hdj) ?_
        rintro t52 S52 ⟨rfl, fs1, lA1, lc1, hl1, rfl⟩
        refine nl ?_
        refine AWP.done (by kernel_rfl) ?_
        refine AW.region ?_
        refine ym ?_
        refine Y1 (Yv.addN_i64 rfl eV eV (fun hg => by omega)) ?_
        refine ya ?_
        refine ⟨j + 1, fs1, lA1, lc1, ⟨by omega, hni.add hjl hfits hget hl1⟩, by omega, (su (su (Sub.cons rfl (by simp) Sub.nil))), rfl⟩
    ·
     refine yl ag_62 0 (nl ?_)
     refine T1 (i := 10) rfl (freeIdxSl rfl ss_62 (by decide) (E rfl rfl) (E rfl rfl) ⟨rfl, by rw [len_fc]; omega⟩) ?_
     refine T1 (i := 11) rfl (freeFieldRp rfl fo_106_1 (E rfl rfl)) ?_
     refine AWP.two (i := 2) (j := 12) (by kernel_rfl) rfl rfl ?_ ?_
     ·
      refine yl ag_62 0 (nl ?_)
      refine T1 (i := 4) rfl (freeIdxSl rfl ss_62 (by decide) (E rfl rfl) (E rfl rfl) ⟨rfl, by rw [len_fc]; omega⟩) ?_
      refine T1 (i := 5) rfl (freeFieldRp rfl fo_106_0 (E rfl rfl)) ?_
      refine AWP.two (i := 6) (j := 12) (by kernel_rfl) rfl rfl ?_ ?_
      ·
       refine Y1 (Yv.loadRp rfl ag_9 eV (fun hg => fcn_at (by omega))) (nl ?_)
       refine p1 12 ?_
       refine Y1 (Yv.loadRp rfl ag_9 eV (fun hg => fct_at (by omega))) (nl ?_)
       refine p1 13 ?_
       refine AWL.strBytesRow rfl rfl (B rfl) rfl st_9 so_54 kd_5 (E rfl rfl) (by exact Nat.le_trans hdj (by unfold maxLen; decide)) (fun A51 c51 => ?_)
       refine nl ?_
       refine p1 14 ?_
       refine cE ce_43 [.box b1 64 [sv stdin, .sl 2 (files.flatMap fCells)]] (DSt b10 (ds0 fs lA lc stdin) ++ [fileRow ⟨(files.getD j default).1, (files.getD j default).2, A51, c51⟩]) rfl rfl rfl (lay35F b10 (ds0 fs lA lc stdin) files.length hfl (by omega) ⟨(files.getD j default).1, (files.getD j default).2, A51, c51⟩ hdj) ?_
       rintro t52 S52 ⟨rfl, fs1, lA1, lc1, hl1, rfl⟩
       refine nl ?_
       refine AWP.done (by kernel_rfl) ?_
       refine AW.region ?_
       refine ym ?_
       refine Y1 (Yv.addN_i64 rfl eV eV (fun hg => by omega)) ?_
       refine ya ?_
       refine ⟨j + 1, fs1, lA1, lc1, ⟨by omega, hni.add hjl hfits hget hl1⟩, by omega, (su (su (Sub.cons rfl (by simp) Sub.nil))), rfl⟩
      ·
       refine Y1 (Yv.loadRp rfl ag_9 eV (fun hg => fct_at (by omega))) (nl ?_)
       refine AWP.two (i := 6) (j := 13) (by kernel_rfl) rfl rfl ?_ ?_
       ·
        refine Y1 (Yv.loadRp rfl ag_9 eV (fun hg => fcn_at (by omega))) (nl ?_)
        refine p1 13 ?_
        refine AWL.strBytesRow rfl rfl (B rfl) rfl st_9 so_54 kd_5 (E rfl rfl) (by exact Nat.le_trans hdj (by unfold maxLen; decide)) (fun A51 c51 => ?_)
        refine nl ?_
        refine p1 14 ?_
        refine cE ce_43 [.box b1 64 [sv stdin, .sl 2 (files.flatMap fCells)]] (DSt b10 (ds0 fs lA lc stdin) ++ [fileRow ⟨(files.getD j default).1, (files.getD j default).2, A51, c51⟩]) rfl rfl rfl (lay35F b10 (ds0 fs lA lc stdin) files.length hfl (by omega) ⟨(files.getD j default).1, (files.getD j default).2, A51, c51⟩ hdj) ?_
        rintro t52 S52 ⟨rfl, fs1, lA1, lc1, hl1, rfl⟩
        refine nl ?_
        refine AWP.done (by kernel_rfl) ?_
        refine AW.region ?_
        refine ym ?_
        refine Y1 (Yv.addN_i64 rfl eV eV (fun hg => by omega)) ?_
        refine ya ?_
        refine ⟨j + 1, fs1, lA1, lc1, ⟨by omega, hni.add hjl hfits hget hl1⟩, by omega, (su (su (Sub.cons rfl (by simp) Sub.nil))), rfl⟩
       ·
        refine AWL.strBytesRow rfl rfl (B rfl) rfl st_9 so_54 kd_5 (E rfl rfl) (by exact Nat.le_trans hdj (by unfold maxLen; decide)) (fun A51 c51 => ?_)
        refine nl ?_
        refine p1 6 ?_
        refine Y1 (Yv.loadRp rfl ag_9 eV (fun hg => fcn_at (by omega))) (nl ?_)
        refine p1 14 ?_
        refine cE ce_43 [.box b1 64 [sv stdin, .sl 2 (files.flatMap fCells)]] (DSt b10 (ds0 fs lA lc stdin) ++ [fileRow ⟨(files.getD j default).1, (files.getD j default).2, A51, c51⟩]) rfl rfl rfl (lay35F b10 (ds0 fs lA lc stdin) files.length hfl (by omega) ⟨(files.getD j default).1, (files.getD j default).2, A51, c51⟩ hdj) ?_
        rintro t52 S52 ⟨rfl, fs1, lA1, lc1, hl1, rfl⟩
        refine nl ?_
        refine AWP.done (by kernel_rfl) ?_
        refine AW.region ?_
        refine ym ?_
        refine Y1 (Yv.addN_i64 rfl eV eV (fun hg => by omega)) ?_
        refine ya ?_
        refine ⟨j + 1, fs1, lA1, lc1, ⟨by omega, hni.add hjl hfits hget hl1⟩, by omega, (su (su (Sub.cons rfl (by simp) Sub.nil))), rfl⟩
     ·
      refine Y1 (Yv.loadRp rfl ag_9 eV (fun hg => fct_at (by omega))) (nl ?_)
      refine AWP.two (i := 2) (j := 13) (by kernel_rfl) rfl rfl ?_ ?_
      ·
       refine yl ag_62 0 (nl ?_)
       refine T1 (i := 4) rfl (freeIdxSl rfl ss_62 (by decide) (E rfl rfl) (E rfl rfl) ⟨rfl, by rw [len_fc]; omega⟩) ?_
       refine T1 (i := 5) rfl (freeFieldRp rfl fo_106_0 (E rfl rfl)) ?_
       refine AWP.two (i := 6) (j := 13) (by kernel_rfl) rfl rfl ?_ ?_
       ·
        refine Y1 (Yv.loadRp rfl ag_9 eV (fun hg => fcn_at (by omega))) (nl ?_)
        refine p1 13 ?_
        refine AWL.strBytesRow rfl rfl (B rfl) rfl st_9 so_54 kd_5 (E rfl rfl) (by exact Nat.le_trans hdj (by unfold maxLen; decide)) (fun A51 c51 => ?_)
        refine nl ?_
        refine p1 14 ?_
        refine cE ce_43 [.box b1 64 [sv stdin, .sl 2 (files.flatMap fCells)]] (DSt b10 (ds0 fs lA lc stdin) ++ [fileRow ⟨(files.getD j default).1, (files.getD j default).2, A51, c51⟩]) rfl rfl rfl (lay35F b10 (ds0 fs lA lc stdin) files.length hfl (by omega) ⟨(files.getD j default).1, (files.getD j default).2, A51, c51⟩ hdj) ?_
        rintro t52 S52 ⟨rfl, fs1, lA1, lc1, hl1, rfl⟩
        refine nl ?_
        refine AWP.done (by kernel_rfl) ?_
        refine AW.region ?_
        refine ym ?_
        refine Y1 (Yv.addN_i64 rfl eV eV (fun hg => by omega)) ?_
        refine ya ?_
        refine ⟨j + 1, fs1, lA1, lc1, ⟨by omega, hni.add hjl hfits hget hl1⟩, by omega, (su (su (Sub.cons rfl (by simp) Sub.nil))), rfl⟩
       ·
        refine AWL.strBytesRow rfl rfl (B rfl) rfl st_9 so_54 kd_5 (E rfl rfl) (by exact Nat.le_trans hdj (by unfold maxLen; decide)) (fun A51 c51 => ?_)
        refine nl ?_
        refine p1 6 ?_
        refine Y1 (Yv.loadRp rfl ag_9 eV (fun hg => fcn_at (by omega))) (nl ?_)
        refine p1 14 ?_
        refine cE ce_43 [.box b1 64 [sv stdin, .sl 2 (files.flatMap fCells)]] (DSt b10 (ds0 fs lA lc stdin) ++ [fileRow ⟨(files.getD j default).1, (files.getD j default).2, A51, c51⟩]) rfl rfl rfl (lay35F b10 (ds0 fs lA lc stdin) files.length hfl (by omega) ⟨(files.getD j default).1, (files.getD j default).2, A51, c51⟩ hdj) ?_
        rintro t52 S52 ⟨rfl, fs1, lA1, lc1, hl1, rfl⟩
        refine nl ?_
        refine AWP.done (by kernel_rfl) ?_
        refine AW.region ?_
        refine ym ?_
        refine Y1 (Yv.addN_i64 rfl eV eV (fun hg => by omega)) ?_
        refine ya ?_
        refine ⟨j + 1, fs1, lA1, lc1, ⟨by omega, hni.add hjl hfits hget hl1⟩, by omega, (su (su (Sub.cons rfl (by simp) Sub.nil))), rfl⟩
      ·
       refine AWL.strBytesRow rfl rfl (B rfl) rfl st_9 so_54 kd_5 (E rfl rfl) (by exact Nat.le_trans hdj (by unfold maxLen; decide)) (fun A51 c51 => ?_)
       refine nl ?_
       refine p1 2 ?_
       refine yl ag_62 0 (nl ?_)
       refine p1 4 ?_
       refine Y1 (Yv.indexSl rfl ss_62 (B rfl) eV eV (fun hg => ⟨rfl, (by first | omega | (simp only [len_fc, len_ev]; omega))⟩)) (nl ?_)
       refine p1 5 ?_
       refine Y1 (Yv.fieldRp rfl fo_106_0 eV) (nl ?_)
       refine p1 6 ?_
       refine Y1 (Yv.loadRp rfl ag_9 eV (fun hg => fcn_at (by omega))) (nl ?_)
       refine p1 14 ?_
       refine cE ce_43 [.box b1 64 [sv stdin, .sl 2 (files.flatMap fCells)]] (DSt b10 (ds0 fs lA lc stdin) ++ [fileRow ⟨(files.getD j default).1, (files.getD j default).2, A51, c51⟩]) rfl rfl rfl (lay35F b10 (ds0 fs lA lc stdin) files.length hfl (by omega) ⟨(files.getD j default).1, (files.getD j default).2, A51, c51⟩ hdj) ?_
       rintro t52 S52 ⟨rfl, fs1, lA1, lc1, hl1, rfl⟩
       refine nl ?_
       refine AWP.done (by kernel_rfl) ?_
       refine AW.region ?_
       refine ym ?_
       refine Y1 (Yv.addN_i64 rfl eV eV (fun hg => by omega)) ?_
       refine ya ?_
       refine ⟨j + 1, fs1, lA1, lc1, ⟨by omega, hni.add hjl hfits hget hl1⟩, by omega, (su (su (Sub.cons rfl (by simp) Sub.nil))), rfl⟩
   try replace h1f := odf h1f
   have hno : fitsB (files.getD j default).1 = false ∨ ¬ getP (files.getD j default).1 (fs.map nb) = none := by
    rw [Bool.and_eq_false_iff, ← fits_eq] at h1f
    rcases h1f with h | h
    ·exact .inl h
    ·right
     intro hx
     have h2 := odf h
     have h3 : ¬ findP (files.getD j default).1 (fs.map nb) < 0 := h2
     rcases findP_get (name := (files.getD j default).1) (l := fs.map nb) with ⟨h4, _⟩ | ⟨q, _, _, _, h4, _⟩
     ·rw [h4] at h3; exact h3 (by decide)
     ·rw [hx] at h4; cases h4
   refine AW.skip ?_
   refine AW.region ?_
   refine ym ?_
   refine Y1 (Yv.addN_i64 rfl eV eV (fun hg => by omega)) ?_
   refine ya ?_
   refine ⟨j + 1, fs, lA, lc, ⟨by omega, hni.skip hjl hno⟩, by omega, (su (su (Sub.cons rfl (by simp) Sub.nil))), rfl⟩
  try replace h0f := odf h0f
  refine AW.exit ?_
  refine rs (ym ?_)
  refine AWL.makeRow (n := 19) (c := 19) rfl rfl (B rfl) rfl el_81 (E rfl rfl) (E rfl rfl) (by decide) (by decide) (by unfold maxLen; decide) (fun A54 => ?_)
  refine Y1 (Yv.nilChk rfl eV) ?_
  refine yf fo_84_2 ?_
  refine AWL.storeBox (i := 1) rfl rfl rfl ag_81 rfl (E rfl rfl) (E rfl rfl) rfl rfl nB (nl ?_)
  refine AW.dropAt 0 ?_
  refine AW.dropAt 2 ?_
  refine AW.perm (S' := DSt b10 { (ds0 fs lA lc stdin) with opn := opnZ, dA := A54, dc := 19 }) (new_perm _ _ _ _ _) ?_
  refine rs (ym ?_)
  refine Y1 (Yv.nilChk rfl eV) ?_
  refine yf fo_84_2 ?_
  refine yl ag_81 0 ?_
  refine Y1 (Yv.indexRow (j := 0) rfl ss_81 (i := 2) rfl (E rfl rfl) (E rfl rfl) (fun hg => ⟨rfl, by show (0 : Nat) < 19; decide⟩)) ?_
  refine Y1 (Yv.fieldEp rfl fo_110_0 eV) ?_
  refine AWL.storeEp1 (i := 2) rfl rfl rfl ag_3 rfl (E rfl rfl) (E rfl rfl) rfl rfl (by exact Nat.le_of_ble_eq_true rfl) (nl ?_)
  refine rs (ym ?_)
  refine Y1 (Yv.nilChk rfl eV) ?_
  refine yf fo_84_2 ?_
  refine yl ag_81 0 ?_
  refine Y1 (Yv.indexRow (j := 1) rfl ss_81 (i := 2) rfl (E rfl rfl) (E rfl rfl) (fun hg => ⟨rfl, by show (1 : Nat) < 19; decide⟩)) ?_
  refine Y1 (Yv.fieldEp rfl fo_110_0 eV) ?_
  refine AWL.storeEp1 (i := 2) rfl rfl rfl ag_3 rfl (E rfl rfl) (E rfl rfl) rfl rfl (by exact Nat.le_of_ble_eq_true rfl) (nl ?_)
  refine rs (ym ?_)
  refine Y1 (Yv.nilChk rfl eV) ?_
  refine yf fo_84_2 ?_
  refine yl ag_81 0 ?_
  refine Y1 (Yv.indexRow (j := 2) rfl ss_81 (i := 2) rfl (E rfl rfl) (E rfl rfl) (fun hg => ⟨rfl, by show (2 : Nat) < 19; decide⟩)) ?_
  refine Y1 (Yv.fieldEp rfl fo_110_0 eV) ?_
  refine AWL.storeEp1 (i := 2) rfl rfl rfl ag_3 rfl (E rfl rfl) (E rfl rfl) rfl rfl (by exact Nat.le_of_ble_eq_true rfl) (nl ?_)
  refine AW.eqS (S' := DSt b10 { (ds0 fs lA lc stdin) with opn := opn0, dA := A54, dc := 19 }) rfl ?_
  refine rs (ym ?_)
  refine ya ?_
  refine AW.ret (retI (.tmp rfl .nil) ?_)
  refine ⟨b10, { (ds0 fs lA lc stdin) with opn := opn0, dA := A54, dc := 19 }, rfl, rfl, rfl, rfl, rfl, ?_⟩
  have h := hni
  rw [List.take_of_length_le (by omega)] at h
  exact h

end Go.Proofs.YtpgbpdnmjeoeoaaGreat.V

namespace Go.Proofs.YtpgbpdnmjeoeoaaGreat.V
open Go Go.RowKit
structure RP (n : Nat) (p : PW) : Prop where
 pb : PB n p
 nm : Named p
 nd : (p.files.map (·.1)).Nodup
 ns : ∀ f ∈ p.files, f.1.length ≤ 255
theorem putP_ns {name : Nm} {b : List UInt8} {l : Fl} (h : ∀ f ∈ l, f.1.length ≤ 255) (hn : name.length ≤ 255) : ∀ f ∈ putP name b l, f.1.length ≤ 255 := by
 intro f hf
 induction l with
 | nil => rw [putP] at hf; rw [List.mem_singleton.1 hf]; exact hn
 | cons x r ih =>
  rw [putP] at hf
  split at hf
  ·rcases List.mem_cons.1 hf with rfl | hf
   ·exact hn
   ·exact h f (List.mem_cons_of_mem _ hf)
  ·rcases List.mem_cons.1 hf with rfl | hf
   ·exact h _ (List.mem_cons_self ..)
   ·exact ih (fun g hg => h g (List.mem_cons_of_mem _ hg)) hf
theorem open_short {name : Nm} {flags : Int} {p : PW} (h : ¬ openV name flags p < 0) : name.length ≤ 255 := by
 rcases Nat.lt_or_ge 255 name.length with q | q
 ·exfalso
  unfold openV at h
  rw [if_pos q] at h
  exact h (by decide)
 exact q
theorem RP.of_open {n : Nat} {p : PW} (h : RP n p) (name : Nm) (flags : Int) : RP (n + 1) (openP name flags p) := by
 refine ⟨?_, named_open h.nm name flags, ?_, ?_⟩
 ·by_cases hf : flags = 577
  ·rw [hf]; exact h.pb.opened name
  exact (h.pb.open0 name flags hf).mono (by omega)
 ·unfold openP
  split
  ·exact h.nd
  split
  ·exact putP_nodup h.nd
  exact h.nd
 unfold openP
 split
 ·exact h.ns
 rename_i hv
 split
 ·exact putP_ns h.ns (open_short hv)
 exact h.ns
theorem RP.close {n : Nat} {p : PW} (h : RP n p) (fd : Int) : RP n (closeP fd p) := by
 refine ⟨h.pb.close fd, named_close h.nm fd, ?_, ?_⟩
 ·unfold closeP
  split
  ·exact h.nd
  exact h.nd
 unfold closeP
 split
 ·exact h.ns
 exact h.ns
theorem RP.write {n : Nat} {p : PW} (h : RP n p) (fd : Int) (s : List UInt8) : RP (n + 1 + s.length) (writeP fd s p) := by
 refine ⟨h.pb.write fd s, named_write h.nm fd s, ?_, ?_⟩
 ·unfold writeP
  split
  ·exact h.nd
  split
  ·exact h.nd
  split
  ·split
   ·exact h.nd
   exact putP_nodup h.nd
  exact h.nd
 unfold writeP
 split
 ·exact h.ns
 split
 ·exact h.ns
 split
 ·rename_i hk
  split
  ·exact h.ns
  obtain ⟨_, _, _, hm, he⟩ := kind_in h.nm (fd := fd) (by rw [hk]; decide)
  obtain ⟨b, hb⟩ := Option.isSome_iff_exists.1 (h.nm.2 _ hm (.inr (he ▸ hk)))
  exact putP_ns h.ns (h.ns _ (getP_mem hb))
 exact h.ns
theorem RP.wf {n : Nat} {p : PW} (h : RP n p) (name : Nm) (s : List UInt8) : RP (n + 2 + s.length) (wfP name s p) := by
 refine ⟨h.pb.wf name s, named_wf h.nm name s, ?_, ?_⟩
 ·unfold wfP
  split
  ·exact h.nd
  exact (((h.of_open name 577).write _ s).close _).nd
 unfold wfP
 split
 ·exact h.ns
 exact (((h.of_open name 577).write _ s).close _).ns
end Go.Proofs.YtpgbpdnmjeoeoaaGreat.V

namespace Go.Proofs.YtpgbpdnmjeoeoaaGreat
open Go Go.RowKit
structure Pc where
 prog : Prog
 heap : Wd64
 strict : Bool
 ent : Bool
 st : Int
 ans : Wd64
 code : Int
 steps : Int
def psOf (c : Pc) (lab w pg : T) : PS := ⟨c.prog, lab, c.heap, c.strict, w, pg, c.ent, c.st, c.ans, c.code, c.steps⟩
structure Mc where
 c : Pc
 x : Fr
 bl : List Fr
 mem : Mf
 w : V.PW
def fnOf (p : Prog) (x : Fr) : Fn := p.funs.getD x.f.toNat default
def insOf (p : Prog) (x : Fr) : Ins := (fnOf p x).code.getD x.at_.toNat default
def codeOf (v : Wd64) : Int := IntKind.i64.wrap ((v &&& 255#64).toNat : Int)
def backC (c : Pc) (v : Wd64) : Pc := if c.ent = true then { c with st := 3, ans := v } else { c with st := 1, code := codeOf v }
theorem back_ps (c : Pc) (l w p : T) (v : Wd64) : backP (psOf c l w p) v = psOf (backC c v) l w p := by
 unfold backP backC psOf
 dsimp only
 split <;> rfl
def backM (m : Mc) (v : Wd64) : Mc :=
 match m.bl with
 | [] => { m with c := backC m.c v }
 | y :: r => { m with x := setD y m.x.d v, bl := r }
def argsF (x : Fr) (i : Ins) : List Wd64 := i.args.map (rA x)
def whereOf (p : Prog) (x : Fr) (l : Int) : Int := getL l (whL (fnOf p x).code)
def toN (x : Fr) (i : Ins) : Wd64 := (rA x i.a - 4194304#64) / 16#64
def badTo (p : Prog) (x : Fr) (i : Ins) : Bool :=
 ((decide (rA x i.a < 4194304#64) || !decide ((rA x i.a - 4194304#64) % 16#64 = 0#64)) || decide (wI (p.funs.length : Int) ≤ toN x i)) || !decide ((p.funs.getD (toN x i).toNat default).params = (i.args.length : Int))
def calleeF (p : Prog) (x : Fr) (i : Ins) : Option Nat :=
 if i.kind = 23 ∨ i.kind = 25 then (if badTo p x i = true then none else some (toN x i).toNat) else some i.f.toNat
def callF (strict : Bool) (x : Fr) : Fr := { x with at_ := x.at_ + 1, set := if strict = true then List.replicate x.nr false else x.set }
def jumpM (m : Mc) (i : Ins) : Option Mc :=
 match calleeF m.c.prog m.x i with
 | none => none
 | some f =>
  if i.kind = 24 ∨ i.kind = 25 then some { m with x := openFr (m.c.prog.funs.getD f default) f (argsF m.x i) m.x.d }
  else if 1048576 ≤ m.bl.length + 1 then none
  else some { m with x := openFr (m.c.prog.funs.getD f default) f (argsF m.x i) i.d, bl := callF m.c.strict m.x :: m.bl }
/-! ### system calls -/
def sysA (x : Fr) (i : Ins) (k : Nat) : Wd64 := if k < i.args.length then rA x (i.args.getD k default) else 0#64
def bytesAt (mem : Mf) (a : Wd64) (n : Nat) : List UInt8 := (List.range n).map fun (k : Nat) => mem (a + wI (k : Int))
def putsN (m : Mf) (a : Wd64) (t : List UInt8) : Nat → Mf
 | 0 => m
 | n + 1 => updM (putsN m a t n) (a + wI (n : Int)) (t.getD n 0)
inductive NmR where
 | bad : NmR
 | long : NmR
 | is : List UInt8 → NmR
def nameF (th : Wd64 → Bool) (mem : Mf) (a : Wd64) : Nat → Nat → List UInt8 → NmR
 | 0, _, _ => .long
 | n + 1, k, acc => if decide (a + wI (k : Int) < a) = true ∨ th (a + wI (k : Int)) = false then .bad else if mem (a + wI (k : Int)) = 0 then .is acc else nameF th mem a n (k + 1) (acc ++ [mem (a + wI (k : Int))])
def thereC (c : Pc) (a n : Wd64) : Bool := thereF (psData c.prog) c.heap a n
def badMem (c : Pc) (a n : Wd64) : Bool := decide (0#64 < n) && !thereC c a n
structure SysR where
 n : Int
 mem : Mf
 w : V.PW
def rdM (c : Pc) (mem : Mf) (w : V.PW) (fd : Int) (a n : Wd64) : SysR :=
 if 2147483648#64 < n then ⟨-22, mem, w⟩ else if badMem c a n = true then ⟨-14, mem, w⟩
 else ⟨(V.readV fd n.toNat w).2, putsN mem a (V.readV fd n.toNat w).1 (V.readV fd n.toNat w).1.length, V.readP fd n.toNat w⟩
def wrM (c : Pc) (mem : Mf) (w : V.PW) (fd : Int) (a n : Wd64) : SysR :=
 if 2147483648#64 < n then ⟨-22, mem, w⟩ else if badMem c a n = true then ⟨-14, mem, w⟩
 else ⟨V.writeV fd (bytesAt mem a n.toNat) w, mem, V.writeP fd (bytesAt mem a n.toNat) w⟩
def opM (c : Pc) (mem : Mf) (w : V.PW) (a : Wd64) (flags : Int) : SysR :=
 match nameF (fun z => thereC c z 1#64) mem a 256 0 [] with
 | .bad => ⟨-14, mem, w⟩
 | .long => ⟨-36, mem, w⟩
 | .is l => ⟨V.openV l flags w, mem, V.openP l flags w⟩
def clM (mem : Mf) (w : V.PW) (fd : Int) : SysR := ⟨V.closeV fd w, mem, V.closeP fd w⟩
def sysR (m : Mc) (i : Ins) : Option SysR :=
 if i.imm = 0 then some (rdM m.c m.mem m.w (sI (sysA m.x i 0)) (sysA m.x i 1) (sysA m.x i 2))
 else if i.imm = 1 then some (wrM m.c m.mem m.w (sI (sysA m.x i 0)) (sysA m.x i 1) (sysA m.x i 2))
 else if i.imm = 2 then some (opM m.c m.mem m.w (sysA m.x i 0) (sI (sysA m.x i 1)))
 else if i.imm = 3 then some (clM m.mem m.w (sI (sysA m.x i 0)))
 else none
def sysM (m : Mc) (i : Ins) : Option Mc :=
 if i.imm = 60 then some { m with c := { m.c with st := 1, code := codeOf (sysA m.x i 0) } }
 else match sysR m i with
  | none => none
  | some r => some { m with x := goF (setD m.x i.d (wI r.n)), mem := r.mem, w := r.w }
/-! ### a step -/
def adF (x : Fr) (i : Ins) : Wd64 := rA x i.a + wI i.imm
def memOk (c : Pc) (a : Wd64) (z : Int) : Bool := sizeOk z && thereC c a (wI z)
def jmpF (p : Prog) (x : Fr) (i : Ins) : Fr := { x with at_ := if i.kind = 20 ∨ holdsF i.cond (rA x i.a) (rA x i.b) = true then whereOf p x i.l else x.at_ + 1 }
def stepM (R : Int → Wd64 → Wd64 → Wd64) (m : Mc) (i : Ins) : Option Mc :=
 if okS m.x.set (readsF i) = false then none
 else if i.kind = 20 ∨ i.kind = 21 then some { m with x := jmpF m.c.prog m.x i }
 else if i.kind = 26 then some (backM m (rA m.x i.a))
 else if i.kind = 22 ∨ i.kind = 23 ∨ i.kind = 24 ∨ i.kind = 25 then jumpM m i
 else if i.kind = 18 then (if memOk m.c (adF m.x i) i.size = true then some { m with x := goF m.x, mem := putsF m.mem (adF m.x i) (rA m.x i.b) i.size.toNat } else none)
 else if i.kind = 17 then (if memOk m.c (adF m.x i) i.size = true then some { m with x := goF (setD m.x i.d (leF m.mem (adF m.x i) i.size.toNat)) } else none)
 else if i.kind = 30 then sysM m i
 else (stepA R m.c.heap m.x i).map fun x => { m with x := x }
def stuckC (m : Mc) : Mc := { m with c := { m.c with st := 2 } }
def tickC (m : Mc) : Mc := { m with c := { m.c with steps := m.c.steps + 1 } }
def skipL (L : List Ins) : Nat → Nat → Nat
 | 0, a => a
 | n + 1, a => if (L.getD a default).kind = 19 then skipL L n (a + 1) else a
def advF (p : Prog) (x : Fr) : Fr := { x with at_ := (skipL (fnOf p x).code ((fnOf p x).code.length - x.at_.toNat) x.at_.toNat : Nat) }
def advM (m : Mc) : Mc := { m with x := advF m.c.prog m.x }
def runM (R : Int → Wd64 → Wd64 → Wd64) : Nat → Mc → Mc
 | 0, m => m
 | n + 1, m => if m.c.st ≠ 0 then m else
  match stepM R (advM m) (insOf m.c.prog (advM m).x) with
  | none => stuckC (advM m)
  | some q => runM R n (tickC q)
/-! ### what is kept -/
structure FrIn (p : Prog) (x : Fr) : Prop where
 f0 : 0 ≤ x.f
 f1 : x.f.toNat < p.funs.length
 nr : x.nr = (fnOf p x).regs.toNat
 ns : x.ns = (fnOf p x).slots.toNat
 ok : FrOk x
 a0 : 0 ≤ x.at_
 a1 : x.at_.toNat < (fnOf p x).code.length
def Chain : Fr → List Fr → Prop
 | _, [] => True
 | x, y :: r => (0 ≤ x.d ∧ x.d < (y.nr : Int)) ∧ Chain y r
structure MOk (p : Prog) (m : Mc) : Prop where
 prog : m.c.prog = p
 top : FrIn p m.x
 bl : ∀ y ∈ m.bl, FrIn p y
 ch : Chain m.x m.bl
 dep : m.bl.length < 1048576
theorem FrIn.fn {p : Prog} {x : Fr} (hp : ProgOk p) (h : FrIn p x) : FnOk p (fnOf p x) := hp.fn _ (getD_mem h.f1)
theorem FrIn.ins {p : Prog} {x : Fr} (hp : ProgOk p) (h : FrIn p x) : InsOk p (fnOf p x) (cntL (fnOf p x).code) (insOf p x) := (h.fn hp).ins _ (getD_mem h.a1)
theorem FrIn.more {p : Prog} {x : Fr} (hp : ProgOk p) (h : FrIn p x) (hk : endsF (insOf p x).kind = false) : x.at_.toNat + 1 < (fnOf p x).code.length := by
 have hl := (h.fn hp).last
 have h1 := h.a1
 rcases Nat.lt_or_ge (x.at_.toNat + 1) (fnOf p x).code.length with q | q
 ·exact q
 exfalso
 unfold lastK at hl
 rw [show (fnOf p x).code.length - 1 = x.at_.toNat by omega] at hl
 unfold insOf at hk
 rw [hl] at hk; cases hk
theorem FrIn.jump {p : Prog} {x : Fr} (hp : ProgOk p) (h : FrIn p x) {j : Int} (hj : j ∈ nextF (whL (fnOf p x).code) (insOf p x) x.at_.toNat) : FrIn p { x with at_ := j } := by
 have := next_in (h.fn hp) h.a1 j hj
 exact ⟨h.f0, h.f1, h.nr, h.ns, ⟨h.ok.r, h.ok.s, h.ok.t, h.ok.h⟩, this.1, this.2⟩
theorem FrIn.go {p : Prog} {x : Fr} (hp : ProgOk p) (h : FrIn p x) (hk : endsF (insOf p x).kind = false) : FrIn p (goF x) := by
 have := h.more hp hk
 have := h.a0
 exact ⟨h.f0, h.f1, h.nr, h.ns, goF_ok h.ok, by show 0 ≤ x.at_ + 1; omega, by show (x.at_ + 1).toNat < (fnOf p x).code.length; omega⟩
theorem FrIn.setD {p : Prog} {x : Fr} (h : FrIn p x) (d : Int) (v : Wd64) : FrIn p (setD x d v) := ⟨h.f0, h.f1, h.nr, h.ns, setD_ok h.ok d v, h.a0, h.a1⟩
theorem FrIn.call {p : Prog} {x : Fr} (hp : ProgOk p) (h : FrIn p x) (hk : endsF (insOf p x).kind = false) (s : Bool) : FrIn p (callF s x) := by
 have g := h.go hp hk
 refine ⟨g.f0, g.f1, g.nr, g.ns, ⟨g.ok.r, g.ok.s, ?_, g.ok.h⟩, g.a0, g.a1⟩
 show (if s = true then List.replicate x.nr false else x.set).length = x.nr
 split
 ·exact List.length_replicate ..
 exact h.ok.t
theorem FrIn.open {p : Prog} (hp : ProgOk p) {f : Nat} (hf : f < p.funs.length) {args : List Wd64} (ha : (args.length : Int) = (p.funs.getD f default).params) (d : Int) : FrIn p (openFr (p.funs.getD f default) f args d) := by
 have h := hp.fn _ (getD_mem hf)
 have e : fnOf p (openFr (p.funs.getD f default) f args d) = p.funs.getD f default := rfl
 have h1 := h.par2
 refine ⟨by show (0 : Int) ≤ (f : Int); omega, hf, by rw [e]; rfl, by rw [e]; rfl, ⟨?_, ?_, ?_, ?_⟩, by show (0 : Int) ≤ 0; omega, by rw [e]; exact h.code⟩
 ·show (rJ args (p.funs.getD f default).regs.toNat args.length).length = (p.funs.getD f default).regs.toNat
  exact rj_len (Nat.le_refl _) (by omega)
 ·exact List.length_replicate ..
 ·show (sJ (p.funs.getD f default).regs.toNat args.length).length = (p.funs.getD f default).regs.toNat
  exact sj_len (by omega)
 exact List.length_replicate ..
theorem Chain.top {x x' : Fr} {l : List Fr} (h : Chain x l) (hd : x'.d = x.d) : Chain x' l := by
 cases l with
 | nil => trivial
 | cons y r => exact ⟨by rw [hd]; exact h.1, h.2⟩
end Go.Proofs.YtpgbpdnmjeoeoaaGreat

namespace Go.Proofs.YtpgbpdnmjeoeoaaGreat
open Go Go.RowKit
theorem mapsE_at {bs : List Nat} {fs : List Fn} {f : Nat} (h : f < fs.length) (hb : bs.length = fs.length) : ∃ R, (mapsE bs fs).Perm (Ent.map (bs.getD f 0) (lmT (whL (fs.getD f default).code)) :: R) := by
 have hz : f < (bs.zip fs).length := by rw [List.length_zip]; omega
 have e : (bs.zip fs) = (bs.zip fs).take f ++ (bs.zip fs)[f] :: (bs.zip fs).drop (f + 1) := by rw [← List.drop_eq_getElem_cons hz, List.take_append_drop]
 refine ⟨(((bs.zip fs).take f).map fun q => Ent.map q.1 (lmT (whL q.2.code))) ++ (((bs.zip fs).drop (f + 1)).map fun q => Ent.map q.1 (lmT (whL q.2.code))), ?_⟩
 unfold mapsE
 conv => lhs; rw [e]
 rw [List.map_append, List.map_cons]
 refine List.perm_middle.trans ?_
 rw [List.getElem_zip]
 refine List.Perm.of_eq ?_
 congr 2
 ·show bs[f] = bs.getD f 0
  rw [List.getD_eq_getElem?_getD, List.getElem?_eq_getElem (by omega)]; rfl
 rw [gd h]
theorem pJ {A X Y MP R : St} {LR LM : Ent} (h : MP.Perm (LM :: R)) : (A ++ (X ++ (Y ++ (LR :: MP)))).Perm ((A ++ [LR, LM]) ++ (X ++ (Y ++ R))) := by
 rw [List.append_assoc]
 refine List.Perm.append_left A ?_
 refine List.Perm.trans (((h.cons LR).append_left Y).append_left X) ?_
 show (X ++ (Y ++ ([LR, LM] ++ R))).Perm ([LR, LM] ++ (X ++ (Y ++ R)))
 exact ((List.perm_append_comm_assoc Y [LR, LM] R).append_left X).trans (List.perm_append_comm_assoc X [LR, LM] (Y ++ R))
theorem pC {A C X Y Z : St} : (A ++ (X ++ ((C ++ Y) ++ Z))).Perm ((A ++ C) ++ (X ++ (Y ++ Z))) := by
 rw [List.append_assoc A C, List.append_assoc C Y]
 exact (List.perm_append_comm_assoc X C (Y ++ Z)).append_left A
theorem pM {A X W Y : St} : (A ++ ((X ++ W) ++ Y)).Perm ((A ++ X) ++ (W ++ Y)) := by
 rw [List.append_assoc, List.append_assoc]
section
variable {p : Prog} {x : Fr}
theorem FrIn.nrI (hp : ProgOk p) (h : FrIn p x) : (x.nr : Int) = (fnOf p x).regs := by
 have h1 := h.fn hp
 have := h1.par0
 have := h1.par2
 rw [h.nr]; omega
theorem FrIn.nsI (hp : ProgOk p) (h : FrIn p x) : (x.ns : Int) = (fnOf p x).slots := by
 have := (h.fn hp).slot0
 rw [h.ns]; omega
structure InsB (x : Fr) (i : Ins) : Prop where
 a : (hasF i.kind).a = true → 0 ≤ i.a ∧ i.a < (x.nr : Int)
 b : (hasF i.kind).b = true → 0 ≤ i.b ∧ i.b < (x.nr : Int)
 d : (hasF i.kind).d = true → 0 ≤ i.d ∧ i.d < (x.nr : Int)
 args : (hasF i.kind).args = true → ∀ r ∈ i.args, 0 ≤ r ∧ r < (x.nr : Int)
 slot : i.kind = 31 ∨ i.kind = 32 → 0 ≤ i.imm ∧ i.imm < (x.ns : Int)
 rd : ∀ r ∈ readsF i, 0 ≤ r ∧ r < (x.nr : Int)
 len : i.args.length ≤ 1048576
 at_ : 0 ≤ x.at_ ∧ x.at_ ≤ 4611686018427387904
theorem FrIn.bounds (hp : ProgOk p) (hpi : ProgIn p) (h : FrIn p x) : InsB x (insOf p x) := by
 have io := h.ins hp
 have e := h.nrI hp
 have ha : (hasF (insOf p x).kind).a = true → 0 ≤ (insOf p x).a ∧ (insOf p x).a < (x.nr : Int) := fun q => by rw [e]; exact io.a q
 have hb : (hasF (insOf p x).kind).b = true → 0 ≤ (insOf p x).b ∧ (insOf p x).b < (x.nr : Int) := fun q => by rw [e]; exact io.b q
 have hg : (hasF (insOf p x).kind).args = true → ∀ r ∈ (insOf p x).args, 0 ≤ r ∧ r < (x.nr : Int) := fun q r hr => by rw [e]; exact (io.args q).1 r hr
 refine ⟨ha, hb, fun q => by rw [e]; exact io.d q, hg, fun q => by rw [h.nsI hp]; exact io.slot q, fun r hr => ?_, ?_, h.a0, ?_⟩
 ·unfold readsF rd2 rd1 at hr
  rcases List.mem_append.1 hr with hr | hr
  ·rcases List.mem_append.1 hr with hr | hr
   ·split at hr
    ·rename_i q
     rw [List.mem_singleton.1 hr]; exact ha q
    cases hr
   split at hr
   ·rename_i q
    rw [List.mem_singleton.1 hr]; exact hb q
   cases hr
  split at hr
  ·rename_i q
   exact hg q r hr
  cases hr
 ·exact ((hpi.fn _ (getD_mem h.f1)).ins _ (getD_mem h.a1)).args
 have := h.a1
 have h2 : (fnOf p x).code.length ≤ 1048576 := (hpi.fn _ (getD_mem h.f1)).code
 have := h.a0
 omega
end
theorem isF_in {k : Int} (h : isF k = true) : 1 ≤ k ∧ k ≤ 32 := by
 unfold isF ofF at h
 by_cases q : 1 ≤ k ∧ k ≤ 32
 ·exact q
 exfalso
 repeat (first | (rw [if_neg (by omega)] at h) | (cases h))
section
variable {RF : Int → Wd64 → Wd64 → Wd64} {p : Prog} {m : Mc}
theorem step_0 {i : Ins} (h : okS m.x.set (readsF i) = false) : stepM RF m i = none := by rw [stepM, if_pos h]
theorem stepJ {i : Ins} (h0 : okS m.x.set (readsF i) = true) (hk : i.kind = 20 ∨ i.kind = 21) : stepM RF m i = some { m with x := jmpF m.c.prog m.x i } := by rw [stepM, if_neg (by rw [h0]; decide), if_pos hk]
theorem stepB {i : Ins} (h0 : okS m.x.set (readsF i) = true) (hk : i.kind = 26) : stepM RF m i = some (backM m (rA m.x i.a)) := by rw [stepM, if_neg (by rw [h0]; decide), if_neg (by omega), if_pos hk]
theorem stepC {i : Ins} (h0 : okS m.x.set (readsF i) = true) (hk : i.kind = 22 ∨ i.kind = 23 ∨ i.kind = 24 ∨ i.kind = 25) : stepM RF m i = jumpM m i := by rw [stepM, if_neg (by rw [h0]; decide), if_neg (by omega), if_neg (by omega), if_pos hk]
theorem stepSt {i : Ins} (h0 : okS m.x.set (readsF i) = true) (hk : i.kind = 18) : stepM RF m i = if memOk m.c (adF m.x i) i.size = true then some { m with x := goF m.x, mem := putsF m.mem (adF m.x i) (rA m.x i.b) i.size.toNat } else none := by rw [stepM, if_neg (by rw [h0]; decide), if_neg (by omega), if_neg (by omega), if_neg (by omega), if_pos hk]
theorem stepLd {i : Ins} (h0 : okS m.x.set (readsF i) = true) (hk : i.kind = 17) : stepM RF m i = if memOk m.c (adF m.x i) i.size = true then some { m with x := goF (setD m.x i.d (leF m.mem (adF m.x i) i.size.toNat)) } else none := by rw [stepM, if_neg (by rw [h0]; decide), if_neg (by omega), if_neg (by omega), if_neg (by omega), if_neg (by omega), if_pos hk]
theorem stepV {i : Ins} (hk : valK i.kind ∨ i.kind = 32) (h17 : ¬ i.kind = 17) (h18 : ¬ i.kind = 18) : stepM RF m i = (stepA RF m.c.heap m.x i).map fun x => { m with x := x } := by
 unfold valK at hk
 cases h0 : okS m.x.set (readsF i) with
 | false => rw [step_0 h0, stepA, if_pos h0]; rfl
 | true => rw [stepM, if_neg (by rw [h0]; decide), if_neg (by omega), if_neg (by omega), if_neg (by omega), if_neg h18, if_neg h17, if_neg (by omega)]
end
theorem data_at {l : List UInt8} {j : Nat} (h : j < l.length) : (l.map u8)[j * 1 + 0]? = some (u8 (l.getD j 0)) := by
 rw [Nat.mul_one, Nat.add_zero, List.getElem?_map, List.getElem?_eq_getElem h]
 simp [h]
/-! ### a new process -/
def initM (p : Prog) : Mf := putsN (fun _ => 0) 268435456#64 p.data p.data.length
def newC (p : Prog) (heap : Wd64) (strict : Bool) : Pc := ⟨p, heap, strict, false, 0, 0#64, 0, 0⟩
def newX (p : Prog) : Fr := openFr (p.funs.getD 0 default) 0 [] 0
def newM (p : Prog) (heap : Wd64) (strict : Bool) (w : V.PW) : Mc := ⟨newC p heap strict, newX p, [], initM p, w⟩
theorem pmE {X r : Ent} {E W : St} : (X :: r :: (E ++ W)).Perm (((X :: E) ++ W) ++ [r]) := by
 show (X :: (r :: (E ++ W))).Perm (X :: ((E ++ W) ++ [r]))
 exact ((List.perm_append_singleton r (E ++ W)).symm).cons X
end Go.Proofs.YtpgbpdnmjeoeoaaGreat

namespace Go.Proofs.YtpgbpdnmjeoeoaaGreat
open Go Go.RowKit
section
variable {RF : Int → Wd64 → Wd64 → Wd64} {p : Prog} {m m' : Mc}
theorem backC_prog (c : Pc) (v : Wd64) : (backC c v).prog = c.prog ∧ (backC c v).heap = c.heap ∧ (backC c v).strict = c.strict ∧ (backC c v).steps = c.steps ∧ (backC c v).ent = c.ent := by
 unfold backC; split <;> exact ⟨rfl, rfl, rfl, rfl, rfl⟩
theorem not_ends {k : Int} (h : ¬ (k = 20 ∨ k = 24 ∨ k = 25 ∨ k = 26)) : endsF k = false := by
 unfold endsF
 simp only [Bool.or_eq_false_iff, decide_eq_false_iff_not]
 omega
theorem jmp_next (hp : ProgOk p) (h : FrIn p m.x) (hk : (insOf p m.x).kind = 20 ∨ (insOf p m.x).kind = 21) : FrIn p (jmpF p m.x (insOf p m.x)) := by
 unfold jmpF
 split
 ·refine h.jump hp ?_
  unfold nextF
  rw [nx1_t hk]
  exact List.mem_append_left _ (List.mem_singleton.2 rfl)
 rename_i hj
 refine h.jump hp ?_
 unfold nextF
 have h20 : ¬ (insOf p m.x).kind = 20 := fun e => hj (.inl e)
 rw [if_neg (by rw [not_ends (by omega)]; decide)]
 refine List.mem_append_right _ (List.mem_singleton.2 ?_)
 have := h.a0
 omega
structure Same (c c' : Pc) : Prop where
 prog : c'.prog = c.prog
 heap : c'.heap = c.heap
 strict : c'.strict = c.strict
 ent : c'.ent = c.ent
 steps : c'.steps = c.steps
theorem Same.refl (c : Pc) : Same c c := ⟨rfl, rfl, rfl, rfl, rfl⟩
theorem stepA_frame {heap : Wd64} {x x' : Fr} {i : Ins} (h : stepA RF heap x i = some x') : (x' = goF (putF x i) ∨ x' = goF (setD x i.d (valueF RF heap x i).1)) := by
 unfold stepA at h
 split at h
 ·cases h
 split at h
 ·cases h; exact .inl rfl
 split at h
 ·cases h; exact .inr rfl
 cases h
theorem step_ok (hp : ProgOk p) (hpf : p.funs.length ≤ 1048576) (hm : MOk p m) (h19 : (insOf p m.x).kind ≠ 19) (h : stepM RF m (insOf p m.x) = some m') : MOk p m' ∧ Same m.c m'.c := by
 have hpr := hm.prog
 have io := hm.top.ins hp
 unfold stepM at h
 split at h
 ·cases h
 split at h
 ·rename_i hk
  cases h
  refine ⟨⟨hpr, ?_, hm.bl, ?_, hm.dep⟩, Same.refl _⟩
  ·show FrIn p (jmpF m.c.prog m.x (insOf p m.x))
   rw [hpr]; exact jmp_next hp hm.top hk
  exact hm.ch.top rfl
 split at h
 ·cases h
  unfold backM
  split
  ·rename_i hb
   have := backC_prog m.c (rA m.x (insOf p m.x).a)
   exact ⟨⟨this.1.trans hpr, hm.top, by rw [hb]; exact fun _ q => (by cases q), by rw [hb]; trivial, by rw [hb]; decide⟩, ⟨this.1, this.2.1, this.2.2.1, this.2.2.2.2, this.2.2.2.1⟩⟩
  rename_i y r hb
  have hy := hm.bl y (by rw [hb]; exact List.mem_cons_self ..)
  refine ⟨⟨hpr, hy.setD _ _, fun z hz => hm.bl z (by rw [hb]; exact List.mem_cons_of_mem _ hz), ?_, ?_⟩, Same.refl _⟩
  ·have hc := hm.ch
   rw [hb] at hc
   exact hc.2.top rfl
  have hd := hm.dep
  rw [hb, List.length_cons] at hd
  show r.length < 1048576
  omega
 split at h
 ·rename_i hk
  have hargs : (hasF (insOf p m.x).kind).args = true := by rcases hk with h | h | h | h <;> rw [h] <;> rfl
  have hcin : ∀ f, calleeF m.c.prog m.x (insOf p m.x) = some f → f < p.funs.length ∧ (((insOf p m.x).args.map (rA m.x)).length : Int) = (p.funs.getD f default).params := by
   intro f hf
   rw [hpr] at hf
   unfold calleeF at hf
   rw [List.length_map]
   split at hf
   ·split at hf
    ·cases hf
    ·rename_i hb
     cases hf
     have hb' : badTo p m.x (insOf p m.x) = false := by simpa using hb
     unfold badTo at hb'
     simp only [Bool.or_eq_false_iff, decide_eq_false_iff_not, Bool.not_eq_false', decide_eq_true_eq] at hb'
     have h1 : toN m.x (insOf p m.x) < wI (p.funs.length : Int) := BitVec.not_le.1 hb'.1.2
     rw [BitVec.lt_def] at h1
     have h2 := wI_nat (p.funs.length : Int)
     rw [wrap_u64] at h2
     exact ⟨by omega, by have := hb'.2; omega⟩
   ·rename_i hb
    cases hf
    have hf' : (hasF (insOf p m.x).kind).f = true := by
     rcases hk with h | h | h | h
     ·rw [h]; rfl
     ·exact absurd (.inl h) hb
     ·rw [h]; rfl
     ·exact absurd (.inr h) hb
    have h1 := io.fn hf'
    have h2 := io.par hargs hf'
    unfold parF at h2
    exact ⟨h1.2, h2⟩
  unfold jumpM at h
  cases hc : calleeF m.c.prog m.x (insOf p m.x) with
  | none => rw [hc] at h; cases h
  | some f =>
   rw [hc] at h
   dsimp only at h
   obtain ⟨h1, h2⟩ := hcin f hc
   have hnew : ∀ d, FrIn p (openFr (m.c.prog.funs.getD f default) f (argsF m.x (insOf p m.x)) d) := fun d => by
    rw [hpr]; exact FrIn.open hp h1 h2 d
   split at h
   ·cases h
    exact ⟨⟨hpr, hnew _, hm.bl, hm.ch.top rfl, hm.dep⟩, Same.refl _⟩
   ·rename_i h24
    split at h
    ·cases h
    ·rename_i hmx
     cases h
     have hk2 : (insOf p m.x).kind = 22 ∨ (insOf p m.x).kind = 23 := by omega
     have hd := io.d (by rcases hk2 with h | h <;> rw [h] <;> rfl)
     have hnr : (m.x.nr : Int) = (fnOf p m.x).regs := by
      have h1 := hm.top.fn hp
      have := h1.par0
      have := h1.par2
      rw [hm.top.nr]; omega
     refine ⟨⟨hpr, hnew _, fun z hz => ?_, ⟨?_, ?_⟩, ?_⟩, Same.refl _⟩
     ·rcases List.mem_cons.1 hz with rfl | hz
      ·exact hm.top.call hp (not_ends (by omega)) _
      ·exact hm.bl z hz
     ·show 0 ≤ (insOf p m.x).d ∧ (insOf p m.x).d < (m.x.nr : Int)
      rw [hnr]; exact hd
     ·exact hm.ch.top rfl
     ·show (m.bl.length + 1) < 1048576
      omega
 split at h
 ·rename_i hk
  split at h
  ·cases h
   exact ⟨⟨hpr, hm.top.go hp (not_ends (by omega)), hm.bl, hm.ch.top rfl, hm.dep⟩, Same.refl _⟩
  cases h
 split at h
 ·rename_i hk
  split at h
  ·cases h
   have hg := hm.top.go hp (not_ends (by omega))
   exact ⟨⟨hpr, ⟨hg.f0, hg.f1, hg.nr, hg.ns, goF_ok (setD_ok hm.top.ok _ _), hg.a0, hg.a1⟩, hm.bl, hm.ch.top rfl, hm.dep⟩, Same.refl _⟩
  cases h
 split at h
 ·rename_i hk
  unfold sysM at h
  split at h
  ·cases h
   exact ⟨⟨hpr, hm.top, hm.bl, hm.ch, hm.dep⟩, ⟨rfl, rfl, rfl, rfl, rfl⟩⟩
  cases hr : sysR m (insOf p m.x) with
  | none => rw [hr] at h; cases h
  | some r =>
   rw [hr] at h
   cases h
   have hg := hm.top.go hp (not_ends (by omega))
   exact ⟨⟨hpr, ⟨hg.f0, hg.f1, hg.nr, hg.ns, goF_ok (setD_ok hm.top.ok _ _), hg.a0, hg.a1⟩, hm.bl, hm.ch.top rfl, hm.dep⟩, Same.refl _⟩
 rename_i k1 k2 k3 k4 k5 k6
 cases hA : stepA RF m.c.heap m.x (insOf p m.x) with
 | none => rw [hA] at h; cases h
 | some x' =>
  rw [hA] at h
  cases h
  have hg := hm.top.go hp (not_ends (by omega))
  rcases stepA_frame hA with rfl | rfl
  ·exact ⟨⟨hpr, ⟨hg.f0, hg.f1, hg.nr, hg.ns, goF_ok (putF_ok hm.top.ok _), hg.a0, hg.a1⟩, hm.bl, hm.ch.top rfl, hm.dep⟩, Same.refl _⟩
  ·exact ⟨⟨hpr, ⟨hg.f0, hg.f1, hg.nr, hg.ns, goF_ok (setD_ok hm.top.ok _ _), hg.a0, hg.a1⟩, hm.bl, hm.ch.top rfl, hm.dep⟩, Same.refl _⟩
theorem skip_end {L : List Ins} (hl : (L.getD (L.length - 1) default).kind ≠ 19) : ∀ n a, a < L.length → L.length - a ≤ n → skipL L n a < L.length ∧ (L.getD (skipL L n a) default).kind ≠ 19
 | 0, a, h1, h2 => by omega
 | n + 1, a, h1, h2 => by
  rw [skipL]
  split
  ·rename_i hk
   have : a + 1 < L.length := by
    rcases Nat.lt_or_ge (a + 1) L.length with q | q
    ·exact q
    ·exfalso
     rw [show L.length - 1 = a by omega] at hl
     exact hl hk
   exact skip_end hl n (a + 1) this (by omega)
  ·rename_i hk
   exact ⟨h1, hk⟩
theorem last_not19 {f : Fn} (hf : FnOk p f) : (f.code.getD (f.code.length - 1) default).kind ≠ 19 := by
 intro e
 have h := hf.last
 unfold lastK at h
 rw [e] at h; cases h
theorem adv_in (hp : ProgOk p) {x : Fr} (h : FrIn p x) : FrIn p (advF p x) ∧ (insOf p (advF p x)).kind ≠ 19 := by
 have hs := skip_end (last_not19 (h.fn hp)) _ _ h.a1 (Nat.le_refl _)
 unfold advF
 refine ⟨⟨h.f0, h.f1, h.nr, h.ns, ⟨h.ok.r, h.ok.s, h.ok.t, h.ok.h⟩, Int.natCast_nonneg _, ?_⟩, ?_⟩
 ·show (((skipL _ _ _ : Nat) : Int)).toNat < _
  rw [Int.toNat_natCast]; exact hs.1
 show ((fnOf p x).code.getD (((skipL _ _ _ : Nat) : Int)).toNat default).kind ≠ 19
 rw [Int.toNat_natCast]; exact hs.2
theorem adv_label (hp : ProgOk p) {x : Fr} (h : FrIn p x) (hk : (insOf p x).kind = 19) : advF p (goF x) = advF p x := by
 have h0 := h.a0
 have hlen : (fnOf p x).code.length - x.at_.toNat = ((fnOf p x).code.length - (x.at_ + 1).toNat) + 1 := by
  have := h.more hp (by rw [hk]; rfl)
  omega
 unfold advF
 show ({ (goF x) with at_ := ((skipL (fnOf p x).code ((fnOf p x).code.length - (x.at_ + 1).toNat) (x.at_ + 1).toNat : Nat) : Int) } : Fr) = _
 conv => rhs; rw [hlen, skipL, if_pos (show ((fnOf p x).code.getD x.at_.toNat default).kind = 19 from hk)]
 rw [show (x.at_ + 1).toNat = x.at_.toNat + 1 by omega]
 rfl
theorem adv_not (hp : ProgOk p) {x : Fr} (h : FrIn p x) (hk : (insOf p x).kind ≠ 19) : advF p x = x := by
 have h0 := h.a0
 have h1 := h.a1
 unfold advF
 rw [show (fnOf p x).code.length - x.at_.toNat = ((fnOf p x).code.length - x.at_.toNat - 1) + 1 by omega, skipL, if_neg (show ¬ ((fnOf p x).code.getD x.at_.toNat default).kind = 19 from hk)]
 rw [Int.toNat_of_nonneg h0]
theorem MOk.adv (hp : ProgOk p) (h : MOk p m) : MOk p (advM m) := ⟨h.prog, by show FrIn p (advF m.c.prog m.x); rw [h.prog]; exact (adv_in hp h.top).1, h.bl, h.ch.top rfl, h.dep⟩
theorem MOk.tick (h : MOk p m) : MOk p (tickC m) := ⟨h.prog, h.top, h.bl, h.ch, h.dep⟩
theorem MOk.stuck (h : MOk p m) : MOk p (stuckC m) := ⟨h.prog, h.top, h.bl, h.ch, h.dep⟩
end
end Go.Proofs.YtpgbpdnmjeoeoaaGreat

namespace Go.Proofs.YtpgbpdnmjeoeoaaGreat
open Go Go.RowKit

section
variable {RF : Int → Wd64 → Wd64 → Wd64} {p : Prog} {m m' : Mc}
theorem adv_self (hp : ProgOk p) (hm : MOk p m) (hk : (insOf p m.x).kind ≠ 19) : advM m = m := by
 unfold advM
 rw [hm.prog, adv_not hp hm.top hk]
theorem runM_label (hp : ProgOk p) (hm : MOk p m) (hst : m.c.st = 0) (hk : (insOf p m.x).kind = 19) {n : Nat} (hn : 0 < n) : runM RF n { m with x := goF m.x } = runM RF n m := by
 obtain ⟨k, rfl⟩ : ∃ k, n = k + 1 := ⟨n - 1, by omega⟩
 have e : advM { m with x := goF m.x } = advM m := by
  unfold advM
  dsimp only
  rw [hm.prog, adv_label hp hm.top hk]
 rw [runM, runM, e, if_neg (show ¬ (m.c.st ≠ 0) from fun h => h hst), if_neg (show ¬ (m.c.st ≠ 0) from fun h => h hst)]
theorem runM_step (hp : ProgOk p) (hm : MOk p m) (hst : m.c.st = 0) (hk : (insOf p m.x).kind ≠ 19) {n : Nat} (h : stepM RF m (insOf p m.x) = some m') : runM RF (n + 1) m = runM RF n (tickC m') := by
 rw [runM, if_neg (fun h => h hst), adv_self hp hm hk, hm.prog, h]
theorem runM_stuck (hp : ProgOk p) (hm : MOk p m) (hst : m.c.st = 0) (hk : (insOf p m.x).kind ≠ 19) {n : Nat} (h : stepM RF m (insOf p m.x) = none) : runM RF (n + 1) m = stuckC m := by
 rw [runM, if_neg (fun h => h hst), adv_self hp hm hk, hm.prog, h]
end
theorem idxB {n k j len : Nat} (h : n = len * (k + 1)) (hj : j < len) : j * (k + 1) < n := by
 subst h; exact Nat.mul_lt_mul_of_pos_right hj (Nat.succ_pos k)
theorem toTen0 {A C : St} {x : Ent} : (A ++ (x :: C)).Perm ((A ++ C) ++ [x]) := by
 rw [List.append_assoc]
 exact ((List.perm_append_singleton x C).symm).append_left A
theorem toEnd {A C : St} {x : Ent} : ((A ++ C) ++ [x]).Perm (A ++ (x :: C)) := toTen0.symm

end Go.Proofs.YtpgbpdnmjeoeoaaGreat

namespace Go.Proofs.YtpgbpdnmjeoeoaaGreat
open Go Go.RowKit

theorem ofInt_lt (z : Int) : floatOfInt .f64 z < 18446744073709551616 := write64 (.number (z < 0) z.natAbs 0)
def outF (k : Int) (a b : Wd64) : Option Nat :=
 if k = 1 then fopF .add a.toNat b.toNat else if k = 2 then fopF .sub a.toNat b.toNat else if k = 3 then fopF .mul a.toNat b.toNat else if k = 4 then fopF .quo a.toNat b.toNat else some (floatOfInt .f64 (sI a))
def realF (k : Int) (a b : Wd64) : Wd64 :=
 if k = 5 then truthF (Ieee.double.order a.toNat b.toNat == some .lt)
 else if k = 6 then truthF (Ieee.double.order a.toNat b.toNat == some .lt || Ieee.double.order a.toNat b.toNat == some .eq)
 else if k = 7 then truthF (Ieee.double.order a.toNat b.toNat == some .eq)
 else frF (outF k a b)

end Go.Proofs.YtpgbpdnmjeoeoaaGreat

namespace Go.Proofs.YtpgbpdnmjeoeoaaGreat
open Go Go.RowKit

set_option maxHeartbeats 400000 in
theorem DHolds68 (c : Int) (a b : Wd64) :
    ACalls Tryz.prog 67 [zi c, zw a, zw b] [] (fun t S => t = bv (holdsF c a b)) := by
 refine ACalls.intro Tryz.func67 rfl Tryz.ntmps67 nB rfl fun X w0 => ?_
 refine ra ?_
 refine AW.seq ?_
 refine rs (ym (nl ?_))
 refine AW.block ?_
 refine rs (Y1 (Yv.eql rfl eV eV) ?_)
 refine ya ?_
 refine AW.cond rfl (fun h0t => ?_) (fun h0f => ?_)
 ·try replace h0t := odt h0t
  refine rs (ym ?_)
  refine ym ?_
  refine Y1 (Yv.eqlW rfl eV eV) ?_
  refine ya ?_
  refine AW.ret (retI (.tmp rfl .nil) ?_)
  rw [holdsF, if_pos (by omega)]
  rfl
 try replace h0f := odf h0f
 refine rs (Y1 (Yv.eql rfl eV eV) ?_)
 refine ya ?_
 refine AW.cond rfl (fun h1t => ?_) (fun h1f => ?_)
 ·try replace h1t := odt h1t
  refine rs (ym ?_)
  refine ym ?_
  refine Y1 (Yv.neqW rfl eV eV) ?_
  refine ya ?_
  refine AW.ret (retI (.tmp rfl .nil) ?_)
  rw [holdsF, if_neg (by omega), if_pos (by omega)]
  rfl
 try replace h1f := odf h1f
 refine rs (Y1 (Yv.eql rfl eV eV) ?_)
 refine ya ?_
 refine AW.cond rfl (fun h2t => ?_) (fun h2f => ?_)
 ·try replace h2t := odt h2t
  refine rs (ym ?_)
  refine Y1 (Yv.conv rfl Tryz.underlying22 kd_2 eV) ?_
  refine ym ?_
  refine Y1 (Yv.conv rfl Tryz.underlying22 kd_2 eV) ?_
  refine Y1 (Yv.lss rfl eV eV) ?_
  refine ya ?_
  refine AW.ret (retI (.tmp rfl .nil) ?_)
  rw [holdsF, if_neg (by omega), if_neg (by omega), if_pos (by omega)]
  rfl
 try replace h2f := odf h2f
 refine rs (Y1 (Yv.eql rfl eV eV) ?_)
 refine ya ?_
 refine AW.cond rfl (fun h3t => ?_) (fun h3f => ?_)
 ·try replace h3t := odt h3t
  refine rs (ym ?_)
  refine Y1 (Yv.conv rfl Tryz.underlying22 kd_2 eV) ?_
  refine ym ?_
  refine Y1 (Yv.conv rfl Tryz.underlying22 kd_2 eV) ?_
  refine Y1 (Yv.leq rfl eV eV) ?_
  refine ya ?_
  refine AW.ret (retI (.tmp rfl .nil) ?_)
  rw [holdsF, if_neg (by omega), if_neg (by omega), if_neg (by omega), if_pos (by omega)]
  rfl
 try replace h3f := odf h3f
 refine rs (Y1 (Yv.eql rfl eV eV) ?_)
 refine ya ?_
 refine AW.cond rfl (fun h4t => ?_) (fun h4f => ?_)
 ·try replace h4t := odt h4t
  refine rs (ym ?_)
  refine ym ?_
  refine Y1 (Yv.lssW rfl eV eV) ?_
  refine ya ?_
  refine AW.ret (retI (.tmp rfl .nil) ?_)
  rw [holdsF, if_neg (by omega), if_neg (by omega), if_neg (by omega), if_neg (by omega), if_pos (by omega)]
  rfl
 try replace h4f := odf h4f
 refine AW.skip ?_
 refine rs (ym ?_)
 refine ym ?_
 refine Y1 (Yv.leqW rfl eV eV) ?_
 refine ya ?_
 refine AW.ret (retI (.tmp rfl .nil) ?_)
 rw [holdsF, if_neg (by omega), if_neg (by omega), if_neg (by omega), if_neg (by omega), if_neg (by omega)]
 rfl

set_option maxHeartbeats 400000 in
theorem Dnumber95 (b : Bool) :
    ACalls Tryz.prog 130 [bv b] [] (fun t S => t = zw (truthF b)) := by
 refine ACalls.intro Tryz.func130 rfl Tryz.ntmps130 nB rfl fun X w0 => ?_
 refine ra ?_
 refine AW.seq ?_
 refine rs (ym (nl ?_))
 refine AW.cond rfl (fun h0t => ?_) (fun h0f => ?_)
 ·try replace h0t := odt h0t
  refine ra ?_
  refine AW.ret (retI (.tmp rfl .nil) ?_)
  rw [truthF, if_pos h0t]; rfl
 try replace h0f := odf h0f
 refine AW.skip ?_
 refine ra ?_
 refine AW.ret (retI (.tmp rfl .nil) ?_)
 rw [truthF, if_neg (by rw [h0f]; decide)]; rfl

theorem mod32 (x : Wd64) : x % 4294967296#64 = x &&& 4294967295#64 := by
 apply BitVec.eq_of_toNat_eq
 rw [BitVec.toNat_umod, BitVec.toNat_and]
 show x.toNat % 2 ^ 32 = x.toNat &&& (2 ^ 32 - 1)
 exact (Nat.and_two_pow_sub_one_eq_mod _ _).symm
theorem wide_eq (a b : Wd64) : (a >>> 32) * (b >>> 32) + (((a >>> 32) * (b % 4294967296#64) + (((a % 4294967296#64) * (b % 4294967296#64)) >>> 32)) >>> 32) + (((a % 4294967296#64) * (b >>> 32) + ((a >>> 32) * (b % 4294967296#64) + (((a % 4294967296#64) * (b % 4294967296#64)) >>> 32)) % 4294967296#64) >>> 32) = hiF a b := by
 unfold hiF
 rw [mod32 a, mod32 b, mod32, BitVec.add_comm ((a &&& 4294967295#64) * (b >>> 32))]
set_option maxHeartbeats 400000 in
theorem DWide94 (a b : Wd64) :
    ACalls Tryz.prog 129 [zw a, zw b] [] (fun t S => t = .tup [zw (hiF a b), zw (a * b)]) := by
 refine ACalls.intro Tryz.func129 rfl Tryz.ntmps129 nB rfl fun X w0 => ?_
 refine rs (Y1 (Yv.assign rfl eV) ?_)
 refine ya ?_
 refine rs (ym ?_)
 refine Y1 (Yv.shrW (n := 32) rfl (E rfl rfl) (E rfl rfl) (by decide)) ?_
 refine ya ?_
 refine rs (ym ?_)
 refine Y1 (Yv.remW (b := 4294967296#64) rfl (E rfl rfl) (E rfl rfl) (by decide)) ?_
 refine ya ?_
 refine rs (ym ?_)
 refine Y1 (Yv.shrW (n := 32) rfl (E rfl rfl) (E rfl rfl) (by decide)) ?_
 refine ya ?_
 refine rs (ym ?_)
 refine Y1 (Yv.remW (b := 4294967296#64) rfl (E rfl rfl) (E rfl rfl) (by decide)) ?_
 refine ya ?_
 refine rs (ym ?_)
 refine ym ?_
 refine Y1 (Yv.mulW rfl eV eV) ?_
 refine ya ?_
 refine rs (ym ?_)
 refine ym ?_
 refine Y1 (Yv.mulW rfl eV eV) ?_
 refine ym ?_
 refine Y1 (Yv.shrW (n := 32) rfl (E rfl rfl) (E rfl rfl) (by decide)) ?_
 refine Y1 (Yv.addW rfl eV eV) ?_
 refine ya ?_
 refine rs (ym ?_)
 refine ym ?_
 refine Y1 (Yv.mulW rfl eV eV) ?_
 refine ym ?_
 refine Y1 (Yv.remW (b := 4294967296#64) rfl (E rfl rfl) (E rfl rfl) (by decide)) ?_
 refine Y1 (Yv.addW rfl eV eV) ?_
 refine ya ?_
 refine rs (ym ?_)
 refine ym ?_
 refine Y1 (Yv.mulW rfl eV eV) ?_
 refine ym ?_
 refine Y1 (Yv.shrW (n := 32) rfl (E rfl rfl) (E rfl rfl) (by decide)) ?_
 refine Y1 (Yv.addW rfl eV eV) ?_
 refine ym ?_
 refine Y1 (Yv.shrW (n := 32) rfl (E rfl rfl) (E rfl rfl) (by decide)) ?_
 refine Y1 (Yv.addW rfl eV eV) ?_
 refine ym ?_
 refine ym ?_
 refine Y1 (Yv.mulW rfl eV eV) ?_
 refine Y1 (Yv.assign rfl eV) ?_
 refine ya ?_
 refine AW.ret (retI (.tmp rfl (.tmp rfl .nil)) ?_)
 exact congrArg (fun u => T.tup [zw u, zw (a * b)]) (wide_eq a b)

set_option maxHeartbeats 400000 in
theorem DBits111 (q : Option Nat) (r : Nat) (hr : FOut q r) :
    ACalls Tryz.prog 141 [zf r] [] (fun t S => t = zw (frF q)) := by
 refine ACalls.intro Tryz.func141 rfl Tryz.ntmps141 nB rfl fun X w0 => ?_
 refine ra ?_
 refine AW.seq ?_
 refine rs (ym ?_)
 refine ym ?_
 refine Y1 (Yv.fNeq rfl eV eV) (nl ?_)
 refine AW.cond rfl (fun h0t => ?_) (fun h0f => ?_)
 ·try replace h0t := odt h0t
  refine ra ?_
  refine AW.ret (retI (.tmp rfl .nil) ?_)
  rw [fr_nan hr h0t]
  rfl
 try replace h0f := odf h0f
 refine AW.skip ?_
 refine rs (ym ?_)
 refine Y1 (Yv.toBits Tryz.func143 (by kernel_rfl) (by kernel_rfl) (by kernel_rfl) (by kernel_rfl) rfl eV eV (FOut.lt (by assumption))) ?_
 refine ya ?_
 refine AW.ret (retI (.tmp rfl .nil) ?_)
 rw [fr_num hr h0f]
 rfl

set_option maxHeartbeats 4000000 in
theorem DReal96 (k : Int) (a b : Wd64) (h0 : 1 ≤ k) (h1 : k ≤ 8) :
    ACalls Tryz.prog 131 [zi k, zw a, zw b] [] (fun t S => t = zw (realF k a b)) := by
 refine ACalls.intro Tryz.func131 rfl Tryz.ntmps131 nB rfl fun X w0 => ?_
 refine ra ?_
 refine rs (ym ?_)
 refine Y1 (Yv.fromBits Tryz.func140 (by kernel_rfl) (by kernel_rfl) (by kernel_rfl) (by kernel_rfl) rfl eV eV) ?_
 refine ya ?_
 refine rs (ym ?_)
 refine Y1 (Yv.fromBits Tryz.func140 (by kernel_rfl) (by kernel_rfl) (by kernel_rfl) (by kernel_rfl) rfl eV eV) ?_
 refine ya ?_
 refine AW.seq ?_
 refine rs (ym (nl ?_))
 refine AW.block ?_
 refine rs (Y1 (Yv.eql rfl eV eV) ?_)
 refine ya ?_
 refine AW.cond rfl (fun h0t => ?_) (fun h0f => ?_)
 ·try replace h0t := odt h0t
  refine rs (ym ?_)
  refine ym ?_
  refine AWL.fArith (by simp) rfl rfl (B rfl) rfl (E rfl rfl) (E rfl rfl) (fun r18 hr18 => ?_)
  refine AWL.callT rfl rfl (B rfl) rfl ce_141 (E rfl rfl) (evsC (E rfl rfl) evs0) (DBits111 (fopF .add a.toNat b.toNat) r18 (by assumption)) ?_
  rintro t19 S19 rfl
  refine ya ?_
  refine AW.ret (retI (.tmp rfl .nil) ?_)
  rw [realF, if_neg (by omega), if_neg (by omega), if_neg (by omega), outF, if_pos (by omega)]
  rfl
 try replace h0f := odf h0f
 refine rs (Y1 (Yv.eql rfl eV eV) ?_)
 refine ya ?_
 refine AW.cond rfl (fun h1t => ?_) (fun h1f => ?_)
 ·try replace h1t := odt h1t
  refine rs (ym ?_)
  refine ym ?_
  refine AWL.fArith (by simp) rfl rfl (B rfl) rfl (E rfl rfl) (E rfl rfl) (fun r24 hr24 => ?_)
  refine AWL.callT rfl rfl (B rfl) rfl ce_141 (E rfl rfl) (evsC (E rfl rfl) evs0) (DBits111 (fopF .sub a.toNat b.toNat) r24 (by assumption)) ?_
  rintro t25 S25 rfl
  refine ya ?_
  refine AW.ret (retI (.tmp rfl .nil) ?_)
  rw [realF, if_neg (by omega), if_neg (by omega), if_neg (by omega), outF, if_neg (by omega), if_pos (by omega)]
  rfl
 try replace h1f := odf h1f
 refine rs (Y1 (Yv.eql rfl eV eV) ?_)
 refine ya ?_
 refine AW.cond rfl (fun h2t => ?_) (fun h2f => ?_)
 ·try replace h2t := odt h2t
  refine rs (ym ?_)
  refine ym ?_
  refine AWL.fArith (by simp) rfl rfl (B rfl) rfl (E rfl rfl) (E rfl rfl) (fun r30 hr30 => ?_)
  refine AWL.callT rfl rfl (B rfl) rfl ce_141 (E rfl rfl) (evsC (E rfl rfl) evs0) (DBits111 (fopF .mul a.toNat b.toNat) r30 (by assumption)) ?_
  rintro t31 S31 rfl
  refine ya ?_
  refine AW.ret (retI (.tmp rfl .nil) ?_)
  rw [realF, if_neg (by omega), if_neg (by omega), if_neg (by omega), outF, if_neg (by omega), if_neg (by omega), if_pos (by omega)]
  rfl
 try replace h2f := odf h2f
 refine rs (Y1 (Yv.eql rfl eV eV) ?_)
 refine ya ?_
 refine AW.cond rfl (fun h3t => ?_) (fun h3f => ?_)
 ·try replace h3t := odt h3t
  refine rs (ym ?_)
  refine ym ?_
  refine AWL.fArith (by simp) rfl rfl (B rfl) rfl (E rfl rfl) (E rfl rfl) (fun r36 hr36 => ?_)
  refine AWL.callT rfl rfl (B rfl) rfl ce_141 (E rfl rfl) (evsC (E rfl rfl) evs0) (DBits111 (fopF .quo a.toNat b.toNat) r36 (by assumption)) ?_
  rintro t37 S37 rfl
  refine ya ?_
  refine AW.ret (retI (.tmp rfl .nil) ?_)
  rw [realF, if_neg (by omega), if_neg (by omega), if_neg (by omega), outF, if_neg (by omega), if_neg (by omega), if_neg (by omega), if_pos (by omega)]
  rfl
 try replace h3f := odf h3f
 refine rs (Y1 (Yv.eql rfl eV eV) ?_)
 refine ya ?_
 refine AW.cond rfl (fun h4t => ?_) (fun h4f => ?_)
 ·try replace h4t := odt h4t
  refine rs (ym ?_)
  refine ym ?_
  refine Y1 (Yv.fLss rfl eV eV) ?_
  refine AWL.callT rfl rfl (B rfl) rfl ce_130 (E rfl rfl) (evsC (E rfl rfl) evs0) (Dnumber95 (Ieee.double.order a.toNat b.toNat == some .lt)) ?_
  rintro t43 S43 rfl
  refine ya ?_
  refine AW.ret (retI (.tmp rfl .nil) ?_)
  rw [realF, if_pos (by omega)]
  rfl
 try replace h4f := odf h4f
 refine rs (Y1 (Yv.eql rfl eV eV) ?_)
 refine ya ?_
 refine AW.cond rfl (fun h5t => ?_) (fun h5f => ?_)
 ·try replace h5t := odt h5t
  refine rs (ym ?_)
  refine ym ?_
  refine Y1 (Yv.fLeq rfl eV eV) ?_
  refine AWL.callT rfl rfl (B rfl) rfl ce_130 (E rfl rfl) (evsC (E rfl rfl) evs0) (Dnumber95 ((Ieee.double.order a.toNat b.toNat == some .lt || Ieee.double.order a.toNat b.toNat == some .eq))) ?_
  rintro t49 S49 rfl
  refine ya ?_
  refine AW.ret (retI (.tmp rfl .nil) ?_)
  rw [realF, if_neg (by omega), if_pos (by omega)]
  rfl
 try replace h5f := odf h5f
 refine rs (Y1 (Yv.eql rfl eV eV) ?_)
 refine ya ?_
 refine AW.cond rfl (fun h6t => ?_) (fun h6f => ?_)
 ·try replace h6t := odt h6t
  refine rs (ym ?_)
  refine ym ?_
  refine Y1 (Yv.fEql rfl eV eV) ?_
  refine AWL.callT rfl rfl (B rfl) rfl ce_130 (E rfl rfl) (evsC (E rfl rfl) evs0) (Dnumber95 (Ieee.double.order a.toNat b.toNat == some .eq)) ?_
  rintro t55 S55 rfl
  refine ya ?_
  refine AW.ret (retI (.tmp rfl .nil) ?_)
  rw [realF, if_neg (by omega), if_neg (by omega), if_pos (by omega)]
  rfl
 try replace h6f := odf h6f
 refine AW.skip ?_
 refine rs (ym ?_)
 refine Y1 (Yv.conv rfl Tryz.underlying22 kd_2 eV) ?_
 refine Y1 (Yv.convIF rfl (by kernel_rfl) Tryz.underlying181 eV) ?_
 refine AWL.callT rfl rfl (B rfl) rfl ce_141 (E rfl rfl) (evsC (E rfl rfl) evs0) (DBits111 (some (floatOfInt .f64 (sI a))) _ ⟨rfl, ofInt_lt _⟩) ?_
 rintro t59 S59 rfl
 refine ya ?_
 refine AW.ret (retI (.tmp rfl .nil) ?_)
 rw [realF, if_neg (by omega), if_neg (by omega), if_neg (by omega), outF, if_neg (by omega), if_neg (by omega), if_neg (by omega), if_neg (by omega)]
 rfl

end Go.Proofs.YtpgbpdnmjeoeoaaGreat

namespace Go.Proofs.YtpgbpdnmjeoeoaaGreat
open Go Go.RowKit
def frD (x : Fr) (a : FA) : List T := [zi x.f, zi x.at_, .v (.slice a.r x.nr x.nr), .v (.slice a.t x.nr x.nr), .v (.slice a.s x.ns x.ns), .v (.slice a.h x.ns x.ns), zi x.d]
def frE (x : Fr) (a : FA) : St := [.row a.r x.nr x.nr 22 1 (x.r.map zw), .row a.t x.nr x.nr 4 1 (x.set.map bv), .row a.s x.ns x.ns 22 1 (x.slot.map zw), .row a.h x.ns x.ns 4 1 (x.there.map bv)]
theorem frD_len (x : Fr) (a : FA) : (frD x a).length = 7 := rfl
section
variable {pre : List T} {x : Fr} {a : FA}
theorem fd_at (i : Nat) : (pre ++ frD x a)[pre.length + i]? = (frD x a)[i]? := by rw [List.getElem?_append_right (by omega), Nat.add_sub_cancel_left]
theorem fd0 : (pre ++ frD x a)[pre.length + 0]? = some (zi x.f) := fd_at 0
theorem fd1 : (pre ++ frD x a)[pre.length + 1]? = some (zi x.at_) := fd_at 1
theorem fd2 : (pre ++ frD x a)[pre.length + 2]? = some (.v (.slice a.r x.nr x.nr)) := fd_at 2
theorem fd3 : (pre ++ frD x a)[pre.length + 3]? = some (.v (.slice a.t x.nr x.nr)) := fd_at 3
theorem fd4 : (pre ++ frD x a)[pre.length + 4]? = some (.v (.slice a.s x.ns x.ns)) := fd_at 4
theorem fd5 : (pre ++ frD x a)[pre.length + 5]? = some (.v (.slice a.h x.ns x.ns)) := fd_at 5
theorem fd6 : (pre ++ frD x a)[pre.length + 6]? = some (zi x.d) := fd_at 6
theorem fd_len : (pre ++ frD x a).length = pre.length + 7 := by rw [List.length_append]; rfl
theorem fd_set (i : Nat) (t : T) : (pre ++ frD x a).set (pre.length + i) t = pre ++ (frD x a).set i t := by
 rw [List.set_append_right _ _ (by omega), Nat.add_sub_cancel_left]
theorem fd_jump (z : Int) : (pre ++ frD x a).set (pre.length + 1) (zi z) = pre ++ frD { x with at_ := z } a := fd_set 1 _
end
theorem setE_rows (x : Fr) (a : FA) (d : Int) (v : Wd64) : frE (setD x d v) a = [.row a.r x.nr x.nr 22 1 ((x.r.map zw).set (d.toNat * 1) (zw v)), .row a.t x.nr x.nr 4 1 ((x.set.map bv).set (d.toNat * 1) (bv true)), .row a.s x.ns x.ns 22 1 (x.slot.map zw), .row a.h x.ns x.ns 4 1 (x.there.map bv)] := by
 unfold frE setD
 rw [Nat.mul_one, ← List.map_set, ← List.map_set]
theorem putE_rows (x : Fr) (a : FA) (i : Ins) : frE (putF x i) a = [.row a.r x.nr x.nr 22 1 (x.r.map zw), .row a.t x.nr x.nr 4 1 (x.set.map bv), .row a.s x.ns x.ns 22 1 ((x.slot.map zw).set (i.imm.toNat * 1) (zw (rA x i.a))), .row a.h x.ns x.ns 4 1 ((x.there.map bv).set (i.imm.toNat * 1) (bv true))] := by
 unfold frE putF
 rw [Nat.mul_one, ← List.map_set, ← List.map_set]
theorem top6D {pre : List T} {y x : Fr} {b a : FA} {k : Nat} (h : pre.length = k * 7) : (pre ++ frD y b ++ frD x a)[(k + 1) * 7 + 6]? = some (zi x.d) := by
 have h2 : (pre ++ frD y b).length = (k + 1) * 7 := by rw [List.length_append, h, frD_len]; omega
 rw [← h2]; exact fd6
theorem take_topD {pre : List T} {y x : Fr} {b a : FA} {k : Nat} (h : pre.length = k * 7) : (pre ++ frD y b ++ frD x a).take ((k + 1) * 7) = pre ++ frD y b := by
 rw [List.take_left' (by rw [List.length_append, h, frD_len]; omega)]
end Go.Proofs.YtpgbpdnmjeoeoaaGreat

namespace Go.Proofs.YtpgbpdnmjeoeoaaGreat
open Go Go.RowKit

set_option maxHeartbeats 8000000 in
theorem Dopen43_ (s : Nat) (x : PS) (ob : Bool) (fi : Nat) (args : List Wd64) (d : Int) (C : Option Addr) (n c : Nat) (cs : List T) (R K : Nat) (hf : fi < x.prog.funs.length) (hpf : x.prog.funs.length ≤ 1048576) (hR : (x.prog.funs.getD fi default).regs = (R : Int)) (hK : (x.prog.funs.getD fi default).slots = (K : Int)) (hR1 : R ≤ 65536) (hK1 : K ≤ 1048576) (ha : args.length ≤ R) (hn : n ≤ 1048576) :
    ACalls Tryz.prog 40 [pv s, .v (.int .i64 (fi : Int)), .sl 1 (args.map zw), zi d] [.box s 75 (psD x ob (.v (.slice C n c))), .row C n c 116 7 cs] (fun t S => t = .tup [] ∧ ∃ g c' a, S = [.box s 75 (psD x ob (.v (.slice (some ⟨g, 0, none⟩) (n + 1) c'))), .row (some ⟨g, 0, none⟩) (n + 1) c' 116 7 (cs ++ frD ⟨fi, 0, R, K, rJ args R args.length, List.replicate K 0#64, sJ R args.length, List.replicate K false, d⟩ a)] ++ frE ⟨fi, 0, R, K, rJ args R args.length, List.replicate K 0#64, sJ R args.length, List.replicate K false, d⟩ a) := by
 have hpR : Pin (zi (x.prog.funs.getD fi default).regs) (.int .i64 (R : Int)) := by rw [hR]; exact pinV
 have hpK : Pin (zi (x.prog.funs.getD fi default).slots) (.int .i64 (K : Int)) := by rw [hK]; exact pinV
 refine ACalls.intro Tryz.func40 rfl Tryz.ntmps40 nB rfl fun X w0 => ?_
 refine rs (ym ?_)
 refine Y1 (Yv.nilChk rfl eV) ?_
 refine yf fo_75_0 ?_
 refine yf fo_56_0 ?_
 refine yl ag_53 0 ?_
 refine ym ?_
 refine Y1 (Yv.indexSl rfl ss_53 (B rfl) eV eV (fun hg => ⟨rfl, (by first | omega | (simp only [len_code, len_funs, len_args, len_data, len_zw]; omega))⟩)) ?_
 refine Y1 (Yv.loadRpA rfl ag_93 eV (fun hg => fn_cells (by omega))) ?_
 refine AWL.allocOp rfl rfl (B rfl) rfl zc_93 (fun b8 => ?_)
 refine AWL.storeBox (i := 2) rfl rfl rfl ag_93 rfl (E rfl rfl) (E rfl rfl) rfl rfl nB (nl ?_)
 refine AW.rseqH (HeldCs [(b8, 2, Value.int .i64 (R : Int)), (b8, 3, Value.int .i64 (K : Int))]) rfl (tells_cs (tcB 2 rfl rfl hpR (tcB 2 rfl rfl hpK tc0))) ?_
 refine AWH.tkN (i := 0) rfl (by kernel_rfl) (by kernel_rfl) (by kernel_rfl) rfl rfl (B rfl) (freeMove rfl (E rfl rfl)) ?_
 refine AWH.tkN (i := 1) rfl (by kernel_rfl) (by kernel_rfl) (by kernel_rfl) rfl rfl (B rfl) (freeMove rfl (E rfl rfl)) ?_
 refine AWH.tkN (i := 2) rfl (by kernel_rfl) (by kernel_rfl) (by kernel_rfl) rfl rfl (B rfl) (freeField rfl fo_93_2 (E rfl rfl)) ?_
 refine T2 (i := 3) rfl (heldB 0 rfl ag_3 (E rfl rfl) rfl (fun _ _ => .v _)) ?_
 refine AWH.tkN (i := 5) rfl (by kernel_rfl) (by kernel_rfl) (by kernel_rfl) rfl rfl (B rfl) (freeField rfl fo_93_2 (E rfl rfl)) ?_
 refine T2 (i := 6) rfl (heldB 0 rfl ag_3 (E rfl rfl) rfl (fun _ _ => .v _)) ?_
 refine AWH.tkN (i := 8) rfl (by kernel_rfl) (by kernel_rfl) (by kernel_rfl) rfl rfl (B rfl) (freeField rfl fo_93_3 (E rfl rfl)) ?_
 refine T2 (i := 9) rfl (heldB 1 rfl ag_3 (E rfl rfl) rfl (fun _ _ => .v _)) ?_
 refine AWH.tkN (i := 11) rfl (by kernel_rfl) (by kernel_rfl) (by kernel_rfl) rfl rfl (B rfl) (freeField rfl fo_93_3 (E rfl rfl)) ?_
 refine T2 (i := 12) rfl (heldB 1 rfl ag_3 (E rfl rfl) rfl (fun _ _ => .v _)) ?_
 refine AWH.free [⟨4, some 23, [], [4], (fun l => .v (.slice (l.getD 0 default).1 R R)), (fun _ => True)⟩, ⟨7, some 26, [], [7], (fun l => .v (.slice (l.getD 0 default).1 R R)), (fun _ => True)⟩, ⟨10, some 29, [], [10], (fun l => .v (.slice (l.getD 0 default).1 K K)), (fun _ => True)⟩, ⟨13, some 32, [], [13], (fun l => .v (.slice (l.getD 0 default).1 K K)), (fun _ => True)⟩, ⟨14, some 33, [4, 7, 10, 13], [4, 7, 10, 13], (fun l => .agg (frD ⟨fi, 0, R, K, rJ args R 0, List.replicate K 0#64, sJ R 0, List.replicate K false, d⟩ ⟨(l.getD 0 default).1, (l.getD 2 default).1, (l.getD 1 default).1, (l.getD 3 default).1⟩)), (fun _ => True)⟩, ⟨15, some 9, [], [15], (fun l => .v (.pointer (some ⟨(l.getD 0 default).2, 0, none⟩))), (fun _ => True)⟩, ⟨16, none, [4, 7, 10, 13, 14, 15], [], (fun _ => .v (.bool false)), (fun _ => True)⟩] [⟨4, [4], (fun l => .row (l.getD 0 default).1 R R 22 1 ((rJ args R 0).map zw)), 999, [4], (fun l => .row (l.getD 0 default).1 R R 22 1 ((rJ args R 0).map zw))⟩, ⟨7, [7], (fun l => .row (l.getD 0 default).1 R R 4 1 ((sJ R 0).map bv)), 999, [7], (fun l => .row (l.getD 0 default).1 R R 4 1 ((sJ R 0).map bv))⟩, ⟨10, [10], (fun l => .row (l.getD 0 default).1 K K 22 1 ((List.replicate K 0#64).map zw)), 999, [10], (fun l => .row (l.getD 0 default).1 K K 22 1 ((List.replicate K 0#64).map zw))⟩, ⟨13, [13], (fun l => .row (l.getD 0 default).1 K K 4 1 ((List.replicate K false).map bv)), 999, [13], (fun l => .row (l.getD 0 default).1 K K 4 1 ((List.replicate K false).map bv))⟩, ⟨15, [15], (fun l => .box (l.getD 0 default).2 116 [zi 0, zi 0, nilT, nilT, nilT, nilT, zi 0]), 16, [4, 7, 10, 13, 15], (fun l => .box (l.getD 4 default).2 116 (frD ⟨fi, 0, R, K, rJ args R 0, List.replicate K 0#64, sJ R 0, List.replicate K false, d⟩ ⟨(l.getD 0 default).1, (l.getD 2 default).1, (l.getD 1 default).1, (l.getD 3 default).1⟩))⟩] 0 #[true, true, true, true, true, true, true, true, true, true, true, true, true, true, true, true, true] (ι := Option Addr × Option Addr × Option Addr × Option Addr × Nat) (fun ⟨A23, A26, A29, A32, b9⟩ => [(9, true, pv b9), (0, true, pv s), (1, true, .v (.int .i64 (fi : Int))), (2, true, .sl 1 (args.map zw)), (3, true, zi d), (8, true, pv b8)]) (fun ⟨A23, A26, A29, A32, b9⟩ => (.row A23 R R 22 1 ((rJ args R 0).map zw) :: .row A26 R R 4 1 ((sJ R 0).map bv) :: .row A29 K K 22 1 ((List.replicate K 0#64).map zw) :: .row A32 K K 4 1 ((List.replicate K false).map bv) :: .box b9 116 (frD ⟨fi, 0, R, K, rJ args R 0, List.replicate K 0#64, sJ R 0, List.replicate K false, d⟩ ⟨A23, A29, A26, A32⟩) :: .box s 75 (psD x ob (.v (.slice C n c))) :: .row C n c 116 7 cs :: .box b8 93 (fnCells (x.prog.funs.getD fi default)) :: [])) (fun ⟨A23, A26, A29, A32, b9⟩ => True) rfl (by kernel_rfl) (by kernel_rfl) (tcB 2 rfl rfl hpR (tcB 2 rfl rfl hpK tc0)) ?_ ?_ ?_
 ·refine obC rfl (fun γ env X hS hv => ?_) ?_
  ·refine AWL.makeRow (n := R) (c := R) rfl rfl (B rfl) rfl el_32 (Es hS (E rfl rfl)) (Es hS (E rfl rfl)) (Nat.le_refl _) (by omega) (by unfold maxLen; omega) (fun A23 => ?_)
   refine AWL.eqLast (zero_r args R) ?_
   exact AWL.nil (frA (A23, 0) trivial rfl (List.perm_append_singleton _ _))
  refine obC rfl (fun γ env X hS hv => ?_) ?_
  ·refine AWL.makeRow (n := R) (c := R) rfl rfl (B rfl) rfl el_114 (Es hS (E rfl rfl)) (Es hS (E rfl rfl)) (Nat.le_refl _) (by omega) (by unfold maxLen; omega) (fun A26 => ?_)
   refine AWL.eqLast (zero_s R) ?_
   exact AWL.nil (frA (A26, 0) trivial rfl (List.perm_append_singleton _ _))
  refine obC rfl (fun γ env X hS hv => ?_) ?_
  ·refine AWL.makeRow (n := K) (c := K) rfl rfl (B rfl) rfl el_32 (Es hS (E rfl rfl)) (Es hS (E rfl rfl)) (Nat.le_refl _) (by omega) (by unfold maxLen; omega) (fun A29 => ?_)
   refine AWL.eqLast (mk_zero K) ?_
   exact AWL.nil (frA (A29, 0) trivial rfl (List.perm_append_singleton _ _))
  refine obC rfl (fun γ env X hS hv => ?_) ?_
  ·refine AWL.makeRow (n := K) (c := K) rfl rfl (B rfl) rfl el_114 (Es hS (E rfl rfl)) (Es hS (E rfl rfl)) (Nat.le_refl _) (by omega) (by unfold maxLen; omega) (fun A32 => ?_)
   refine AWL.eqLast (zero_b K) ?_
   exact AWL.nil (frA (A32, 0) trivial rfl (List.perm_append_singleton _ _))
  refine obC rfl (fun γ env X hS hv => ?_) ?_
  ·refine Y1 (Yv.buildS rfl sh_116 (evpC (Es hS eV) (evpC (Es hS eV) (evpC (Es hS eV) (evpC (Es hS eV) (evpC (Es hS eV) (evpC (Es hS eV) evp0)))))) (fun _ => rfl)) ?_
   exact AWL.nil (frA (none, 0) trivial rfl (.refl _))
  refine obC rfl (fun γ env X hS hv => ?_) ?_
  ·refine AWL.allocOp rfl rfl (B rfl) rfl zc_116 (fun b9 => ?_)
   exact AWL.nil (frA (none, b9) trivial rfl (List.perm_append_singleton _ _))
  refine obC rfl (fun γ env X hS hv => ?_) ?_
  ·refine AWL.storeBox (i := 0) rfl rfl rfl ag_116 rfl (Es hS (E rfl rfl)) (Es hS (E rfl rfl)) rfl rfl nB ?_
   exact AWL.nil (frA (none, 0) trivial rfl (.refl _))
  trivial
 ·exact fun γ hi => ⟨((γ 4).1, (γ 7).1, (γ 10).1, (γ 13).1, (γ 15).2), trivial, (su (su (su (su (su (su sn)))))), rfl⟩
 rintro ⟨A23, A26, A29, A32, b9⟩ _
 refine AWH.done (by kernel_rfl) ?_
 refine AW.dropAt 7 ?_
 refine AW.seq ?_
 refine ra ?_
 refine AW.block ?_
 refine AW.loop (fun (j : Nat) => [(0, true, pv s), (2, true, .sl 1 (args.map zw)), (9, true, pv b9), (10, true, .v (.int .i64 (j : Int)))]) (fun (j : Nat) => [.row A23 R R 22 1 ((rJ args R j).map zw), .row A26 R R 4 1 ((sJ R j).map bv), .row A29 K K 22 1 ((List.replicate K 0#64).map zw), .row A32 K K 4 1 ((List.replicate K false).map bv), .box b9 116 (frD ⟨fi, 0, R, K, rJ args R 0, List.replicate K 0#64, sJ R 0, List.replicate K false, d⟩ ⟨A23, A29, A26, A32⟩), .box s 75 (psD x ob (.v (.slice C n c))), .row C n c 116 7 cs]) (fun (j : Nat) => j ≤ args.length) (fun (j : Nat) => args.length - j) 0 ?_ ?_ ?_ ?_
 ·exact Nat.zero_le _
 ·exact (su (su (su (su sn))))
 ·rfl
 intro j hinv
 refine AW.seq ?_
 refine rs (ym ?_)
 refine ym ?_
 refine Y1 (Yv.lenSl rfl so_32 (B rfl) eV len_zw) ?_
 refine Y1 (Yv.lss rfl eV eV) (nl ?_)
 refine AW.cond rfl (fun h0t => ?_) (fun h0f => ?_)
 ·try replace h0t := odt h0t
  refine AW.skip ?_
  refine AW.seq ?_
  refine AW.block ?_
  refine AW.rseqH (HeldCs [(b9, 2, Value.slice A23 R R), (b9, 3, Value.slice A26 R R)]) rfl (tells_cs (tcB 4 rfl rfl pinV (tcB 4 rfl rfl pinV tc0))) ?_
  refine T2 (i := 0) rfl (heldAll (freeField rfl fo_116_2 (E rfl rfl))) ?_
  refine T2 (i := 1) rfl (heldB 0 rfl ag_32 (E rfl rfl) rfl (fun _ _ => .v _)) ?_
  refine T2 (i := 2) rfl (heldAll (freeMove rfl (E rfl rfl))) ?_
  refine T2 (i := 3) rfl (heldAll (freeMove rfl (E rfl rfl))) ?_
  refine AWH.one (i := 4) (by kernel_rfl) rfl ?_
  refine ym ?_
  refine AWL.nil (kpH (tcB 4 rfl rfl pinV (tcB 4 rfl rfl pinV tc0)) ?_)
  refine AWH.one (i := 5) (by kernel_rfl) rfl ?_
  refine Y1 (Yv.indexSl rfl ss_32 (B rfl) eV eV (fun hg => ⟨rfl, (by first | omega | (simp only [len_code, len_funs, len_args, len_data, len_zw]; omega))⟩)) ?_
  refine AWL.nil (kpH (tcB 4 rfl rfl pinV (tcB 4 rfl rfl pinV tc0)) ?_)
  refine AWH.one (i := 6) (by kernel_rfl) rfl ?_
  refine Y1 (Yv.loadRp rfl ag_22 eV (fun hg => word_at (by omega))) ?_
  refine AWL.nil (kpH (tcB 4 rfl rfl pinV (tcB 4 rfl rfl pinV tc0)) ?_)
  refine AWH.one (i := 7) (by kernel_rfl) rfl ?_
  refine Y1 (Yv.indexRow rfl ss_32 (i := 0) rfl eV eV (fun hg => ⟨rfl, by omega⟩)) ?_
  refine AWL.nil (kpH (tcB 4 rfl rfl pinV (tcB 4 rfl rfl pinV tc0)) ?_)
  refine AWH.one (i := 8) (by kernel_rfl) rfl ?_
  refine AWL.storeEp1 (i := 0) rfl rfl rfl ag_22 rfl (E rfl rfl) (E rfl rfl) rfl rfl (by first | (rw [List.length_map, rj_len (by omega) ha]; omega) | (rw [List.length_map, sj_len (by omega)]; omega)) ?_
  refine AWL.nil (kpH (tcB 4 rfl rfl pinV (tcB 4 rfl rfl pinV tc0)) ?_)
  refine AWH.done (by kernel_rfl) ?_
  refine AW.region ?_
  refine yf fo_116_3 ?_
  refine yl ag_114 4 ?_
  refine ym ?_
  refine Y1 (Yv.indexRow rfl ss_114 (i := 1) rfl eV eV (fun hg => ⟨rfl, by omega⟩)) ?_
  refine AWL.storeEp1 (i := 1) rfl rfl rfl ag_4 rfl (E rfl rfl) (E rfl rfl) rfl rfl (by first | (rw [List.length_map, sj_len (by omega)]; omega) | (rw [List.length_map, rj_len (by omega) ha]; omega)) (nl ?_)
  refine AW.region ?_
  refine ym ?_
  refine Y1 (Yv.addN_i64 rfl eV eV (fun hg => by omega)) ?_
  refine ya ?_
  refine ⟨j + 1, by omega, by omega, (su (su (su (Sub.cons rfl (by simp) Sub.nil)))), ?_⟩
  rw [← rj_succ (show j < args.length by omega) ha, ← sj_succ (show j < R by omega)]
  rfl
 try replace h0f := odf h0f
 obtain rfl : j = args.length := by omega
 refine AW.exit ?_
 refine AW.regionP rfl ?_
 refine T1 (i := 0) rfl (freeMove rfl (E rfl rfl)) ?_
 refine T1 (i := 1) rfl (freeMove rfl (E rfl rfl)) ?_
 refine T1 (i := 2) rfl (freeNil rfl (E rfl rfl)) ?_
 refine T1 (i := 3) rfl (freeField rfl fo_75_6 (E rfl rfl)) ?_
 refine AWP.two (i := 4) (j := 5) (by kernel_rfl) rfl rfl ?_ ?_
 ·refine yl ag_73 5 (nl ?_)
  refine p1 5 ?_
  refine Y1 (Yv.loadBoxA rfl ag_116 (i := 4) rfl eV rfl rfl) (nl ?_)
  refine p1 6 ?_
  refine AWL.buildSliceE rfl rfl (B rfl) rfl el_73 (B rfl) rfl (evsC (E rfl rfl) evs0) nB rfl rfl (nl ?_)
  refine p1 7 ?_
  refine AWL.appendRow (i := 6) rfl rfl (B rfl) rfl el_73 (B rfl) rfl (E rfl rfl) (SrcT.sl so_73 (B rfl) (E rfl rfl) rfl) (by unfold maxLen; omega) (by omega) (fun A59 c59 => ?_)
  refine nl ?_
  refine p1 8 ?_
  refine Y1 (Yv.nilChk rfl eV) (nl ?_)
  refine p1 9 ?_
  refine yf fo_75_6 (nl ?_)
  refine p1 10 ?_
  refine AWL.storeBox (i := 5) rfl rfl rfl ag_73 rfl (E rfl rfl) (E rfl rfl) rfl rfl nB ?_
  refine AWL.rowSome 6 rfl (Nat.mul_pos (Nat.succ_pos _) (by decide)) (fun g59 hg59 => ?_)
  subst hg59
  refine AWL.dropAt 4 ?_
  refine AWL.perm (S' := [.box s 75 (psD x ob (.v (.slice (some ⟨g59, 0, none⟩) (n + 1) c59))), .row (some ⟨g59, 0, none⟩) (n + 1) c59 116 7 (cs ++ frD ⟨fi, 0, R, K, rJ args R args.length, List.replicate K 0#64, sJ R args.length, List.replicate K false, d⟩ ⟨A23, A29, A26, A32⟩), .row A23 R R 22 1 ((rJ args R args.length).map zw), .row A26 R R 4 1 ((sJ R args.length).map bv), .row A29 K K 22 1 ((List.replicate K 0#64).map zw), .row A32 K K 4 1 ((List.replicate K false).map bv)]) (List.perm_append_comm (l₁ := ([.box s 75 (psD x ob (.v (.slice (some ⟨g59, 0, none⟩) (n + 1) c59))), .row (some ⟨g59, 0, none⟩) (n + 1) c59 116 7 (cs ++ frD ⟨fi, 0, R, K, rJ args R args.length, List.replicate K 0#64, sJ R args.length, List.replicate K false, d⟩ ⟨A23, A29, A26, A32⟩)] : St)) (l₂ := [.row A23 R R 22 1 ((rJ args R args.length).map zw), .row A26 R R 4 1 ((sJ R args.length).map bv), .row A29 K K 22 1 ((List.replicate K 0#64).map zw), .row A32 K K 4 1 ((List.replicate K false).map bv)])) (nl ?_)
  refine AWP.done (by kernel_rfl) ?_
  refine retN .nil ?_
  exact ⟨rfl, g59, c59, ⟨A23, A29, A26, A32⟩, rfl⟩
 refine Y1 (Yv.loadBoxA rfl ag_116 (i := 4) rfl eV rfl rfl) (nl ?_)
 refine AWP.two (i := 4) (j := 6) (by kernel_rfl) rfl rfl ?_ ?_
 ·refine yl ag_73 5 (nl ?_)
  refine p1 6 ?_
  refine AWL.buildSliceE rfl rfl (B rfl) rfl el_73 (B rfl) rfl (evsC (E rfl rfl) evs0) nB rfl rfl (nl ?_)
  refine p1 7 ?_
  refine AWL.appendRow (i := 6) rfl rfl (B rfl) rfl el_73 (B rfl) rfl (E rfl rfl) (SrcT.sl so_73 (B rfl) (E rfl rfl) rfl) (by unfold maxLen; omega) (by omega) (fun A59 c59 => ?_)
  refine nl ?_
  refine p1 8 ?_
  refine Y1 (Yv.nilChk rfl eV) (nl ?_)
  refine p1 9 ?_
  refine yf fo_75_6 (nl ?_)
  refine p1 10 ?_
  refine AWL.storeBox (i := 5) rfl rfl rfl ag_73 rfl (E rfl rfl) (E rfl rfl) rfl rfl nB ?_
  refine AWL.rowSome 6 rfl (Nat.mul_pos (Nat.succ_pos _) (by decide)) (fun g59 hg59 => ?_)
  subst hg59
  refine AWL.dropAt 4 ?_
  refine AWL.perm (S' := [.box s 75 (psD x ob (.v (.slice (some ⟨g59, 0, none⟩) (n + 1) c59))), .row (some ⟨g59, 0, none⟩) (n + 1) c59 116 7 (cs ++ frD ⟨fi, 0, R, K, rJ args R args.length, List.replicate K 0#64, sJ R args.length, List.replicate K false, d⟩ ⟨A23, A29, A26, A32⟩), .row A23 R R 22 1 ((rJ args R args.length).map zw), .row A26 R R 4 1 ((sJ R args.length).map bv), .row A29 K K 22 1 ((List.replicate K 0#64).map zw), .row A32 K K 4 1 ((List.replicate K false).map bv)]) (List.perm_append_comm (l₁ := ([.box s 75 (psD x ob (.v (.slice (some ⟨g59, 0, none⟩) (n + 1) c59))), .row (some ⟨g59, 0, none⟩) (n + 1) c59 116 7 (cs ++ frD ⟨fi, 0, R, K, rJ args R args.length, List.replicate K 0#64, sJ R args.length, List.replicate K false, d⟩ ⟨A23, A29, A26, A32⟩)] : St)) (l₂ := [.row A23 R R 22 1 ((rJ args R args.length).map zw), .row A26 R R 4 1 ((sJ R args.length).map bv), .row A29 K K 22 1 ((List.replicate K 0#64).map zw), .row A32 K K 4 1 ((List.replicate K false).map bv)])) (nl ?_)
  refine AWP.done (by kernel_rfl) ?_
  refine retN .nil ?_
  exact ⟨rfl, g59, c59, ⟨A23, A29, A26, A32⟩, rfl⟩
 refine AWL.buildSliceE rfl rfl (B rfl) rfl el_73 (B rfl) rfl (evsC (E rfl rfl) evs0) nB rfl rfl (nl ?_)
 refine p1 4 ?_
 refine yl ag_73 5 (nl ?_)
 refine p1 7 ?_
 refine AWL.appendRow (i := 6) rfl rfl (B rfl) rfl el_73 (B rfl) rfl (E rfl rfl) (SrcT.sl so_73 (B rfl) (E rfl rfl) rfl) (by unfold maxLen; omega) (by omega) (fun A59 c59 => ?_)
 refine nl ?_
 refine p1 8 ?_
 refine Y1 (Yv.nilChk rfl eV) (nl ?_)
 refine p1 9 ?_
 refine yf fo_75_6 (nl ?_)
 refine p1 10 ?_
 refine AWL.storeBox (i := 5) rfl rfl rfl ag_73 rfl (E rfl rfl) (E rfl rfl) rfl rfl nB ?_
 refine AWL.rowSome 6 rfl (Nat.mul_pos (Nat.succ_pos _) (by decide)) (fun g59 hg59 => ?_)
 subst hg59
 refine AWL.dropAt 4 ?_
 refine AWL.perm (S' := [.box s 75 (psD x ob (.v (.slice (some ⟨g59, 0, none⟩) (n + 1) c59))), .row (some ⟨g59, 0, none⟩) (n + 1) c59 116 7 (cs ++ frD ⟨fi, 0, R, K, rJ args R args.length, List.replicate K 0#64, sJ R args.length, List.replicate K false, d⟩ ⟨A23, A29, A26, A32⟩), .row A23 R R 22 1 ((rJ args R args.length).map zw), .row A26 R R 4 1 ((sJ R args.length).map bv), .row A29 K K 22 1 ((List.replicate K 0#64).map zw), .row A32 K K 4 1 ((List.replicate K false).map bv)]) (List.perm_append_comm (l₁ := ([.box s 75 (psD x ob (.v (.slice (some ⟨g59, 0, none⟩) (n + 1) c59))), .row (some ⟨g59, 0, none⟩) (n + 1) c59 116 7 (cs ++ frD ⟨fi, 0, R, K, rJ args R args.length, List.replicate K 0#64, sJ R args.length, List.replicate K false, d⟩ ⟨A23, A29, A26, A32⟩)] : St)) (l₂ := [.row A23 R R 22 1 ((rJ args R args.length).map zw), .row A26 R R 4 1 ((sJ R args.length).map bv), .row A29 K K 22 1 ((List.replicate K 0#64).map zw), .row A32 K K 4 1 ((List.replicate K false).map bv)])) (nl ?_)
 refine AWP.done (by kernel_rfl) ?_
 refine retN .nil ?_
 exact ⟨rfl, g59, c59, ⟨A23, A29, A26, A32⟩, rfl⟩

theorem Dopen43 (s : Nat) (x : PS) (ob : Bool) (fi : Nat) (args : List Wd64) (d : Int) (C : Option Addr) (n c : Nat) (cs : List T) (hf : fi < x.prog.funs.length) (hpf : x.prog.funs.length ≤ 1048576) (h0 : 0 ≤ (x.prog.funs.getD fi default).regs) (h1 : (x.prog.funs.getD fi default).regs ≤ 65536) (k0 : 0 ≤ (x.prog.funs.getD fi default).slots) (k1 : (x.prog.funs.getD fi default).slots ≤ 1048576) (ha : (args.length : Int) ≤ (x.prog.funs.getD fi default).regs) (hn : n ≤ 1048576) :
    ACalls Tryz.prog 40 [pv s, .v (.int .i64 (fi : Int)), .sl 1 (args.map zw), zi d] [.box s 75 (psD x ob (.v (.slice C n c))), .row C n c 116 7 cs] (fun t S => t = .tup [] ∧ ∃ g c' a, S = [.box s 75 (psD x ob (.v (.slice (some ⟨g, 0, none⟩) (n + 1) c'))), .row (some ⟨g, 0, none⟩) (n + 1) c' 116 7 (cs ++ frD (openFr (x.prog.funs.getD fi default) fi args d) a)] ++ frE (openFr (x.prog.funs.getD fi default) fi args d) a) :=
 Dopen43_ s x ob fi args d C n c cs _ _ hf hpf (by omega) (by omega) (by omega) (by omega) (by omega) hn
end Go.Proofs.YtpgbpdnmjeoeoaaGreat

namespace Go.Proofs.YtpgbpdnmjeoeoaaGreat
open Go Go.RowKit

theorem mod256 (v : Wd64) : v % 256#64 = v &&& 255#64 := by
 apply BitVec.eq_of_toNat_eq
 rw [BitVec.toNat_umod, BitVec.toNat_and]
 show v.toNat % 2 ^ 8 = v.toNat &&& (2 ^ 8 - 1)
 exact (Nat.and_two_pow_sub_one_eq_mod _ _).symm
theorem mod64 (v : Wd64) : v % 64#64 = v &&& 63#64 := by
 apply BitVec.eq_of_toNat_eq
 rw [BitVec.toNat_umod, BitVec.toNat_and]
 show v.toNat % 2 ^ 6 = v.toNat &&& (2 ^ 6 - 1)
 exact (Nat.and_two_pow_sub_one_eq_mod _ _).symm
set_option maxHeartbeats 2000000 in
theorem DbackOne (s g c : Nat) (ps : PS) (ob : Bool) (x : Fr) (a : FA) (v : Wd64) :
    ACalls Tryz.prog 69 [pv s, zw v] ([Ent.box s 75 (psD ps ob (.v (.slice (some ⟨g, 0, none⟩) 1 c))), Ent.row (some ⟨g, 0, none⟩) 1 c 116 7 (frD x a)]) (fun t S => t = .tup [] ∧ S = [Ent.box s 75 (psD (backP ps v) ob (.v (.slice (some ⟨g, 0, none⟩) 1 c))), Ent.row (some ⟨g, 0, none⟩) 1 c 116 7 (frD x a)]) := by
 refine ACalls.intro Tryz.func69 rfl Tryz.ntmps69 nB rfl fun X w0 => ?_
 refine rs (ym ?_)
 refine Y1 (Yv.nilChk rfl eV) ?_
 refine yf fo_75_6 ?_
 refine yl ag_73 0 ?_
 refine Y1 (Yv.lenV rfl so_73 eV) ?_
 refine ya ?_
 refine rs (ym ?_)
 refine Y1 (Yv.nilChk rfl eV) ?_
 refine yf fo_75_6 ?_
 refine yl ag_73 0 ?_
 refine ym ?_
 refine Y1 (Yv.subN_i64 rfl eV eV (fun hg => by omega)) ?_
 refine Y1 (Yv.indexRow (j := 0) rfl ss_73 (i := 1) rfl eV eV (fun hg => ⟨rfl, by omega⟩)) ?_
 refine Y1 (Yv.fieldEp rfl fo_116_6 eV) ?_
 refine Y1 (Yv.loadEp rfl ag_3 (i := 1) rfl eV (fun _ => rfl)) ?_
 refine ya ?_
 refine AW.seq ?_
 refine rs (ym ?_)
 refine Y1 (Yv.gtr rfl eV eV) (nl ?_)
 refine AW.cond rfl (fun h0t => ?_) (fun h0f => ?_)
 ·try replace h0t := odt h0t
  exfalso; omega
 try replace h0f := odf h0f
 refine AW.skip ?_
 refine AW.seq ?_
 refine rs (ym ?_)
 refine Y1 (Yv.nilChk rfl eV) ?_
 refine yf fo_75_7 ?_
 refine yl ag_4 0 (nl ?_)
 refine AW.cond rfl (fun h1t => ?_) (fun h1f => ?_)
 ·try replace h1t := odt h1t
  refine rs (ym ?_)
  refine Y1 (Yv.nilChk rfl eV) ?_
  refine yf fo_75_8 ?_
  refine AWL.storeBox (i := 0) rfl rfl rfl ag_3 rfl (E rfl rfl) (E rfl rfl) rfl rfl nB (nl ?_)
  refine rs (ym ?_)
  refine ym ?_
  refine Y1 (Yv.nilChk rfl eV) ?_
  refine yf fo_75_9 ?_
  refine AWL.storeBox (i := 0) rfl rfl rfl ag_22 rfl (E rfl rfl) (E rfl rfl) rfl rfl nB (nl ?_)
  refine AW.ret (retI .nil ?_)
  refine ⟨rfl, ?_⟩
  rw [backP, if_pos h1t]
  rfl
 try replace h1f := odf h1f
 refine AW.skip ?_
 refine rs (ym ?_)
 refine Y1 (Yv.nilChk rfl eV) ?_
 refine yf fo_75_8 ?_
 refine AWL.storeBox (i := 0) rfl rfl rfl ag_3 rfl (E rfl rfl) (E rfl rfl) rfl rfl nB (nl ?_)
 refine AW.region ?_
 refine ym ?_
 refine ym ?_
 refine Y1 (Yv.remW (b := 256#64) rfl (E rfl rfl) (E rfl rfl) (by decide)) ?_
 refine Y1 (Yv.conv rfl Tryz.underlying22 kd_3 eV) ?_
 refine Y1 (Yv.nilChk rfl eV) ?_
 refine yf fo_75_10 ?_
 refine AWL.storeBox (i := 0) rfl rfl rfl ag_3 rfl (E rfl rfl) (E rfl rfl) rfl rfl nB (nl ?_)
 refine retN .nil ?_
 refine ⟨rfl, ?_⟩
 rw [backP, if_neg (by rw [h1f]; decide), ← mod256]
 rfl

set_option maxHeartbeats 4000000 in
theorem DbackMore (s g c k : Nat) (ps : PS) (ob : Bool) (pre : List T) (y : Fr) (b : FA) (x : Fr) (a : FA) (v : Wd64) (hpre : pre.length = k * 7) (hk : k ≤ 1048576) (hy : FrOk y) (hd : 0 ≤ x.d ∧ x.d < (y.nr : Int)) :
    ACalls Tryz.prog 69 [pv s, zw v] ([Ent.box s 75 (psD ps ob (.v (.slice (some ⟨g, 0, none⟩) (k + 2) c))), Ent.row (some ⟨g, 0, none⟩) (k + 2) c 116 7 (pre ++ frD y b ++ frD x a)] ++ frE y b) (fun t S => t = .tup [] ∧ S = [Ent.box s 75 (psD ps ob (.v (.slice (some ⟨g, 0, none⟩) (k + 1) c))), Ent.row (some ⟨g, 0, none⟩) (k + 1) c 116 7 (pre ++ frD y b)] ++ frE (setD y x.d v) b) := by
 have hl1 := hy.r
 have hl2 := hy.t
 obtain ⟨hd0, hd1⟩ := hd
 refine ACalls.intro Tryz.func69 rfl Tryz.ntmps69 nB rfl fun X w0 => ?_
 refine rs (ym ?_)
 refine Y1 (Yv.nilChk rfl eV) ?_
 refine yf fo_75_6 ?_
 refine yl ag_73 0 ?_
 refine Y1 (Yv.lenV rfl so_73 eV) ?_
 refine ya ?_
 refine rs (ym ?_)
 refine Y1 (Yv.nilChk rfl eV) ?_
 refine yf fo_75_6 ?_
 refine yl ag_73 0 ?_
 refine ym ?_
 refine Y1 (Yv.subN_i64 rfl eV eV (fun hg => by omega)) ?_
 refine Y1 (Yv.indexRow (j := (k + 1)) rfl ss_73 (i := 1) rfl eV eV (fun hg => ⟨by omega, by omega⟩)) ?_
 refine Y1 (Yv.fieldEp rfl fo_116_6 eV) ?_
 refine Y1 (Yv.loadEp rfl ag_3 (i := 1) rfl eV (fun hg => (top6D hpre))) ?_
 refine ya ?_
 refine AW.seq ?_
 refine rs (ym ?_)
 refine Y1 (Yv.gtr rfl eV eV) (nl ?_)
 refine AW.cond rfl (fun h0t => ?_) (fun h0f => ?_)
 ·try replace h0t := odt h0t
  refine AW.rowLe 1 rfl (fun hkc => ?_)
  refine rs (ym ?_)
  refine ym ?_
  refine Y1 (Yv.nilChk rfl eV) ?_
  refine yf fo_75_6 ?_
  refine yl ag_73 0 ?_
  refine ym ?_
  refine Y1 (Yv.subN_i64 rfl eV eV (fun hg => by omega)) ?_
  refine Y1 (Yv.sliceRow0 (i := 1) (m := k + 1) rfl ss_73 rfl eV (Bound.some_ eV (fun hg => by omega)) (fun hg => by omega)) ?_
  refine Y1 (Yv.nilChk rfl eV) ?_
  refine yf fo_75_6 ?_
  refine AWL.storeBox (i := 0) rfl rfl rfl ag_73 rfl (E rfl rfl) (E rfl rfl) rfl rfl nB (nl ?_)
  refine AW.shrink 1 (k + 1) rfl (by omega) ?_
  refine AW.eqS (S' := [Ent.box s 75 (psD ps ob (.v (.slice (some ⟨g, 0, none⟩) (k + 1) c))), Ent.row (some ⟨g, 0, none⟩) (k + 1) c 116 7 (pre ++ frD y b)] ++ frE y b) (by
   rw [take_topD hpre]
   rfl) ?_
  refine rs (ym ?_)
  refine Y1 (Yv.nilChk rfl eV) ?_
  refine yf fo_75_6 ?_
  refine yl ag_73 0 ?_
  refine ym ?_
  refine Y1 (Yv.subN_i64 rfl eV eV (fun hg => by omega)) ?_
  refine Y1 (Yv.indexRow (j := k) rfl ss_73 (i := 1) rfl eV eV (fun hg => ⟨by omega, by omega⟩)) ?_
  refine Y1 (Yv.fieldEp rfl fo_116_2 eV) ?_
  refine Y1 (Yv.loadEp rfl ag_32 (i := 1) rfl eV (fun hg => (hpre ▸ fd2))) ?_
  refine ym ?_
  refine ym ?_
  refine Y1 (Yv.indexRow (j := x.d.toNat) rfl ss_32 (i := 2) rfl eV eV (fun hg => ⟨(Int.toNat_of_nonneg hd0).symm, by omega⟩)) ?_
  refine AWL.storeEp1 (i := 2) rfl rfl rfl ag_22 rfl (E rfl rfl) (E rfl rfl) rfl rfl (by first | (rw [List.length_map]; omega) | omega) (nl ?_)
  refine rs (ym ?_)
  refine Y1 (Yv.nilChk rfl eV) ?_
  refine yf fo_75_6 ?_
  refine yl ag_73 0 ?_
  refine ym ?_
  refine Y1 (Yv.subN_i64 rfl eV eV (fun hg => by omega)) ?_
  refine Y1 (Yv.indexRow (j := k) rfl ss_73 (i := 1) rfl eV eV (fun hg => ⟨by omega, by omega⟩)) ?_
  refine Y1 (Yv.fieldEp rfl fo_116_3 eV) ?_
  refine Y1 (Yv.loadEp rfl ag_114 (i := 1) rfl eV (fun hg => (hpre ▸ fd3))) ?_
  refine ym ?_
  refine Y1 (Yv.indexRow (j := x.d.toNat) rfl ss_114 (i := 3) rfl eV eV (fun hg => ⟨(Int.toNat_of_nonneg hd0).symm, by omega⟩)) ?_
  refine AWL.storeEp1 (i := 3) rfl rfl rfl ag_4 rfl (E rfl rfl) (E rfl rfl) rfl rfl (by first | (rw [List.length_map]; omega) | omega) (nl ?_)
  refine AW.ret (retI .nil ?_)
  refine ⟨rfl, ?_⟩
  rw [setE_rows]
  rfl
 try replace h0f := odf h0f
 exfalso; omega

end Go.Proofs.YtpgbpdnmjeoeoaaGreat

namespace Go.Proofs.YtpgbpdnmjeoeoaaGreat
open Go Go.RowKit

set_option maxHeartbeats 16000000 in
theorem Dvalue72_ (s g n c : Nat) (ps : PS) (ob : Bool) (pre : List T) (x : Fr) (a : FA) (i : Ins) (hx : FrOk x) (hk : valK i.kind) (ha : (hasF i.kind).a = true → 0 ≤ i.a ∧ i.a < (x.nr : Int)) (hb : (hasF i.kind).b = true → 0 ≤ i.b ∧ i.b < (x.nr : Int)) (hs : i.kind = 31 → 0 ≤ i.imm ∧ i.imm < (x.ns : Int)) (hre : i.kind = 16 → 1 ≤ i.real ∧ i.real ≤ 8) :
    ACalls Tryz.prog 71 [pv s, .ep (.slice (some ⟨g, 0, none⟩) n c) pre.length, .agg (insCells i)] ([Ent.box s 75 (psD ps ob (.v (.slice (some ⟨g, 0, none⟩) n c))), Ent.row (some ⟨g, 0, none⟩) n c 116 7 (pre ++ frD x a)] ++ frE x a) (fun t S => t = .tup [zw (valueF realF ps.heap x i).1, bv (valueF realF ps.heap x i).2] ∧ ([Ent.box s 75 (psD ps ob (.v (.slice (some ⟨g, 0, none⟩) n c))), Ent.row (some ⟨g, 0, none⟩) n c 116 7 (pre ++ frD x a)] ++ frE x a).Sublist S) := by
 have hl1 := hx.r
 have hl2 := hx.s
 have hl3 := hx.t
 have hl4 := hx.h
 unfold valK at hk
 refine ACalls.intro Tryz.func71 rfl Tryz.ntmps71 nB rfl fun X w0 => ?_
 refine rs ?_
 refine AWL.boxOp rfl rfl (B rfl) rfl (E rfl rfl) rfl (fun b5 => ?_)
 refine Y1 (Yv.assign rfl eV) ?_
 refine ya ?_
 refine AW.seq ?_
 refine rs (yf fo_98_0 ?_)
 refine yl ag_3 6 (nl ?_)
 refine AW.block ?_
 refine rs (Y1 (Yv.eql rfl eV eV) ?_)
 refine ya ?_
 refine AW.cond rfl (fun h0t => ?_) (fun h0f => ?_)
 ·try replace h0t := odt h0t
  refine rs (yf fo_98_9 ?_)
  refine yl ag_2 6 ?_
  refine Y1 (Yv.convW rfl Tryz.underlying2 kd_22 eV) ?_
  refine Y1 (Yv.assign rfl eV) ?_
  refine ya ?_
  refine AW.ret (retI (.tmp rfl (.tmp rfl .nil)) ?_)
  rw [valueF, if_pos (by omega)]
  exact ⟨rfl, List.sublist_append_left _ _⟩
 try replace h0f := odf h0f
 refine rs (Y1 (Yv.eql rfl eV eV) ?_)
 refine ya ?_
 refine AW.cond rfl (fun h1t => ?_) (fun h1f => ?_)
 ·try replace h1t := odt h1t
  refine rs (yf fo_98_9 ?_)
  refine yl ag_2 6 ?_
  refine Y1 (Yv.convW rfl Tryz.underlying2 kd_22 eV) ?_
  refine Y1 (Yv.addW (a := 268435456#64) rfl eV eV) ?_
  refine Y1 (Yv.assign rfl eV) ?_
  refine ya ?_
  refine AW.ret (retI (.tmp rfl (.tmp rfl .nil)) ?_)
  rw [valueF, if_neg (by omega), if_pos (by omega)]
  exact ⟨rfl, List.sublist_append_left _ _⟩
 try replace h1f := odf h1f
 refine rs (Y1 (Yv.eql rfl eV eV) ?_)
 refine ya ?_
 refine AW.cond rfl (fun h2t => ?_) (fun h2f => ?_)
 ·try replace h2t := odt h2t
  refine rs (yf fo_98_5 ?_)
  refine yl ag_3 6 ?_
  refine Y1 (Yv.convW rfl Tryz.underlying3 kd_22 eV) ?_
  refine Y1 (Yv.mulW (a := 16#64) rfl eV eV) ?_
  refine Y1 (Yv.addW (a := 4194304#64) rfl eV eV) ?_
  refine Y1 (Yv.assign rfl eV) ?_
  refine ya ?_
  refine AW.ret (retI (.tmp rfl (.tmp rfl .nil)) ?_)
  rw [valueF, if_neg (by omega), if_neg (by omega), if_pos (by omega)]
  exact ⟨rfl, List.sublist_append_left _ _⟩
 try replace h2f := odf h2f
 refine rs (Y1 (Yv.eql rfl eV eV) ?_)
 refine ya ?_
 refine AW.cond rfl (fun h3t => ?_) (fun h3f => ?_)
 ·try replace h3t := odt h3t
  refine rs (ym ?_)
  refine Y1 (Yv.nilChk rfl eV) ?_
  refine yf fo_75_2 ?_
  refine yl ag_22 0 ?_
  refine Y1 (Yv.assign rfl eV) ?_
  refine ya ?_
  refine AW.ret (retI (.tmp rfl (.tmp rfl .nil)) ?_)
  rw [valueF, if_neg (by omega), if_neg (by omega), if_neg (by omega), if_pos (by omega)]
  exact ⟨rfl, List.sublist_append_left _ _⟩
 try replace h3f := odf h3f
 refine rs (Y1 (Yv.eql rfl eV eV) ?_)
 refine ya ?_
 refine AW.cond rfl (fun h4t => ?_) (fun h4f => ?_)
 ·try replace h4t := odt h4t
  obtain ⟨hs0, hs1⟩ := hs (by omega)
  refine AW.rseqQ rfl (by kernel_rfl) ?_
  refine qm ?_
  refine Q1 (Yv.nilChkEp rfl eV) ?_
  refine Q1 (Yv.fieldEp rfl fo_116_4 eV) ?_
  refine Q1 (Yv.loadEp rfl ag_32 (i := 1) rfl eV (fun hg => fd4)) ?_
  refine qf fo_98_9 ?_
  refine ql ag_2 6 ?_
  refine Q1 (Yv.indexRow (j := i.imm.toNat) rfl ss_32 (i := 4) rfl eV eV (fun hg => ⟨(Int.toNat_of_nonneg (by omega)).symm, by omega⟩)) ?_
  refine Q1 (Yv.loadEp rfl ag_22 (i := 4) rfl eV (fun hg => word_at (by omega))) ?_
  refine qm ?_
  refine Q1 (Yv.nilChkEp rfl eV) ?_
  refine Q1 (Yv.fieldEp rfl fo_116_5 eV) ?_
  refine Q1 (Yv.loadEp rfl ag_114 (i := 1) rfl eV (fun hg => fd5)) ?_
  refine qf fo_98_9 ?_
  refine ql ag_2 6 ?_
  refine Q1 (Yv.indexRow (j := i.imm.toNat) rfl ss_114 (i := 5) rfl eV eV (fun hg => ⟨(Int.toNat_of_nonneg (by omega)).symm, by omega⟩)) ?_
  refine Q1 (Yv.loadEp rfl ag_4 (i := 5) rfl eV (fun hg => bool_at (by omega))) ?_
  refine Q1 (Yv.assign rfl eV) ?_
  refine Q1 (Yv.assign rfl eV) ?_
  refine AWQ.nil ?_
  refine AW.ret (retI (.tmp rfl (.tmp rfl .nil)) ?_)
  rw [valueF, if_neg (by omega), if_neg (by omega), if_neg (by omega), if_neg (by omega), if_pos (by omega)]
  exact ⟨rfl, List.sublist_append_left _ _⟩
 try replace h4f := odf h4f
 refine AW.skip ?_
 obtain ⟨ha0, ha1⟩ := ha (by
  by_cases h2 : i.kind = 2
  ·rw [h2]; rfl
  ·exact (has_ab (k := i.kind) (by omega) (by omega)).1)
 refine AW.rseqQ rfl (by kernel_rfl) ?_
 refine qm ?_
 refine Q1 (Yv.nilChkEp rfl eV) ?_
 refine Q1 (Yv.fieldEp rfl fo_116_2 eV) ?_
 refine Q1 (Yv.loadEp rfl ag_32 (i := 1) rfl eV (fun hg => fd2)) ?_
 refine qf fo_98_2 ?_
 refine ql ag_3 6 ?_
 refine Q1 (Yv.indexRow (j := i.a.toNat) rfl ss_32 (i := 2) rfl eV eV (fun hg => ⟨(Int.toNat_of_nonneg (by omega)).symm, by omega⟩)) ?_
 refine Q1 (Yv.loadEp rfl ag_22 (i := 2) rfl eV (fun hg => word_at (by omega))) ?_
 refine Q1 (Yv.assign rfl eV) ?_
 refine AWQ.nil ?_
 refine AW.seq ?_
 refine rs (yf fo_98_0 ?_)
 refine yl ag_3 6 ?_
 refine Y1 (Yv.eql rfl eV eV) (nl ?_)
 refine AW.cond rfl (fun h5t => ?_) (fun h5f => ?_)
 ·try replace h5t := odt h5t
  refine rs (ym ?_)
  refine Y1 (Yv.assign rfl eV) ?_
  refine ya ?_
  refine AW.ret (retI (.tmp rfl (.tmp rfl .nil)) ?_)
  rw [valueF, if_neg (by omega), if_neg (by omega), if_neg (by omega), if_neg (by omega), if_neg (by omega), if_pos (by omega)]
  exact ⟨rfl, List.sublist_append_left _ _⟩
 try replace h5f := odf h5f
 refine AW.skip ?_
 refine AW.seq ?_
 refine rs (yf fo_98_0 ?_)
 refine yl ag_3 6 ?_
 refine Y1 (Yv.eql rfl eV eV) (nl ?_)
 refine AW.cond rfl (fun h6t => ?_) (fun h6f => ?_)
 ·try replace h6t := odt h6t
  exfalso; omega
 try replace h6f := odf h6f
 refine AW.skip ?_
 obtain ⟨hb0, hb1⟩ := hb (has_ab (k := i.kind) (by omega) (by omega)).2
 refine AW.rseqQ rfl (by kernel_rfl) ?_
 refine qm ?_
 refine Q1 (Yv.nilChkEp rfl eV) ?_
 refine Q1 (Yv.fieldEp rfl fo_116_2 eV) ?_
 refine Q1 (Yv.loadEp rfl ag_32 (i := 1) rfl eV (fun hg => fd2)) ?_
 refine qf fo_98_3 ?_
 refine ql ag_3 6 ?_
 refine Q1 (Yv.indexRow (j := i.b.toNat) rfl ss_32 (i := 2) rfl eV eV (fun hg => ⟨(Int.toNat_of_nonneg (by omega)).symm, by omega⟩)) ?_
 refine Q1 (Yv.loadEp rfl ag_22 (i := 2) rfl eV (fun hg => word_at (by omega))) ?_
 refine Q1 (Yv.assign rfl eV) ?_
 refine AWQ.nil ?_
 refine rs (ym ?_)
 refine Y1 (Yv.eqT (Yv.remW (b := 64#64) rfl (E rfl rfl) (E rfl rfl) (by decide)) (congrArg zw (mod64 _))) ?_
 refine ya ?_
 refine AW.seq ?_
 refine rs (yf fo_98_0 ?_)
 refine yl ag_3 6 (nl ?_)
 refine AW.block ?_
 refine rs (Y1 (Yv.eql rfl eV eV) ?_)
 refine ya ?_
 refine AW.cond rfl (fun h7t => ?_) (fun h7f => ?_)
 ·try replace h7t := odt h7t
  refine rs (ym ?_)
  refine ym ?_
  refine Y1 (Yv.addW rfl eV eV) ?_
  refine Y1 (Yv.assign rfl eV) ?_
  refine ya ?_
  refine AW.ret (retI (.tmp rfl (.tmp rfl .nil)) ?_)
  rw [valueF, if_neg (by omega), if_neg (by omega), if_neg (by omega), if_neg (by omega), if_neg (by omega), if_neg (by omega), if_pos (by omega)]
  exact ⟨rfl, List.sublist_append_left _ _⟩
 try replace h7f := odf h7f
 refine rs (Y1 (Yv.eql rfl eV eV) ?_)
 refine ya ?_
 refine AW.cond rfl (fun h8t => ?_) (fun h8f => ?_)
 ·try replace h8t := odt h8t
  refine rs (ym ?_)
  refine ym ?_
  refine Y1 (Yv.subW rfl eV eV) ?_
  refine Y1 (Yv.assign rfl eV) ?_
  refine ya ?_
  refine AW.ret (retI (.tmp rfl (.tmp rfl .nil)) ?_)
  rw [valueF, if_neg (by omega), if_neg (by omega), if_neg (by omega), if_neg (by omega), if_neg (by omega), if_neg (by omega), if_neg (by omega), if_pos (by omega)]
  exact ⟨rfl, List.sublist_append_left _ _⟩
 try replace h8f := odf h8f
 refine rs (Y1 (Yv.eql rfl eV eV) ?_)
 refine ya ?_
 refine AW.cond rfl (fun h9t => ?_) (fun h9f => ?_)
 ·try replace h9t := odt h9t
  refine rs (ym ?_)
  refine ym ?_
  refine Y1 (Yv.mulW rfl eV eV) ?_
  refine Y1 (Yv.assign rfl eV) ?_
  refine ya ?_
  refine AW.ret (retI (.tmp rfl (.tmp rfl .nil)) ?_)
  rw [valueF, if_neg (by omega), if_neg (by omega), if_neg (by omega), if_neg (by omega), if_neg (by omega), if_neg (by omega), if_neg (by omega), if_neg (by omega), if_pos (by omega)]
  exact ⟨rfl, List.sublist_append_left _ _⟩
 try replace h9f := odf h9f
 refine rs (Y1 (Yv.eql rfl eV eV) ?_)
 refine ya ?_
 refine AW.cond rfl (fun h10t => ?_) (fun h10f => ?_)
 ·try replace h10t := odt h10t
  refine rs (ym ?_)
  refine ym ?_
  refine AWL.callT rfl rfl (B rfl) rfl ce_129 (E rfl rfl) (evsC (E rfl rfl) (evsC (E rfl rfl) evs0)) (DWide94 (rA x i.a) (rA x i.b)) ?_
  rintro t115 S115 rfl
  refine ym ?_
  refine Y1 (Yv.extract rfl eV rfl) ?_
  refine Y1 (Yv.extract rfl eV rfl) ?_
  refine Y1 (Yv.assign rfl eV) ?_
  refine ya ?_
  refine rs (ym ?_)
  refine Y1 (Yv.assign rfl eV) ?_
  refine ya ?_
  refine AW.ret (retI (.tmp rfl (.tmp rfl .nil)) ?_)
  rw [valueF, if_neg (by omega), if_neg (by omega), if_neg (by omega), if_neg (by omega), if_neg (by omega), if_neg (by omega), if_neg (by omega), if_neg (by omega), if_neg (by omega), if_pos (by omega)]
  exact ⟨rfl, List.sublist_append_left _ _⟩
 try replace h10f := odf h10f
 refine rs (Y1 (Yv.eql rfl eV eV) ?_)
 refine ya ?_
 refine AW.cond rfl (fun h11t => ?_) (fun h11f => ?_)
 ·try replace h11t := odt h11t
  refine AW.seq ?_
  refine rs (ym ?_)
  refine Y1 (Yv.eqlW (b := 0#64) rfl eV eV) (nl ?_)
  refine AW.cond rfl (fun h12t => ?_) (fun h12f => ?_)
  ·try replace h12t := odt h12t
   refine rs (Y1 (Yv.assign rfl eV) ?_)
   refine ya ?_
   refine AW.ret (retI (.tmp rfl (.tmp rfl .nil)) ?_)
   rw [valueF, if_neg (by omega), if_neg (by omega), if_neg (by omega), if_neg (by omega), if_neg (by omega), if_neg (by omega), if_neg (by omega), if_neg (by omega), if_neg (by omega), if_neg (by omega), if_neg (by omega), if_neg (by omega), if_neg (by omega), if_neg (by omega), if_neg (by omega), if_neg (by omega), if_neg (by omega), if_neg (by omega)]
   rw [if_pos (by assumption)]
   exact ⟨rfl, List.sublist_append_left _ _⟩
  try replace h12f := odf h12f
  refine AW.skip ?_
  refine rs (ym ?_)
  refine ym ?_
  refine Y1 (Yv.quoW rfl eV eV (by assumption)) ?_
  refine Y1 (Yv.assign rfl eV) ?_
  refine ya ?_
  refine AW.ret (retI (.tmp rfl (.tmp rfl .nil)) ?_)
  rw [valueF, if_neg (by omega), if_neg (by omega), if_neg (by omega), if_neg (by omega), if_neg (by omega), if_neg (by omega), if_neg (by omega), if_neg (by omega), if_neg (by omega), if_neg (by omega), if_neg (by omega), if_neg (by omega), if_neg (by omega), if_neg (by omega), if_neg (by omega), if_neg (by omega), if_neg (by omega), if_neg (by omega)]
  rw [if_neg (by assumption), if_pos (by omega)]
  exact ⟨rfl, List.sublist_append_left _ _⟩
 try replace h11f := odf h11f
 refine rs (Y1 (Yv.eql rfl eV eV) ?_)
 refine ya ?_
 refine AW.cond rfl (fun h13t => ?_) (fun h13f => ?_)
 ·try replace h13t := odt h13t
  refine AW.seq ?_
  refine rs (ym ?_)
  refine Y1 (Yv.eqlW (b := 0#64) rfl eV eV) (nl ?_)
  refine AW.cond rfl (fun h14t => ?_) (fun h14f => ?_)
  ·try replace h14t := odt h14t
   refine rs (Y1 (Yv.assign rfl eV) ?_)
   refine ya ?_
   refine AW.ret (retI (.tmp rfl (.tmp rfl .nil)) ?_)
   rw [valueF, if_neg (by omega), if_neg (by omega), if_neg (by omega), if_neg (by omega), if_neg (by omega), if_neg (by omega), if_neg (by omega), if_neg (by omega), if_neg (by omega), if_neg (by omega), if_neg (by omega), if_neg (by omega), if_neg (by omega), if_neg (by omega), if_neg (by omega), if_neg (by omega), if_neg (by omega), if_neg (by omega)]
   rw [if_pos (by assumption)]
   exact ⟨rfl, List.sublist_append_left _ _⟩
  try replace h14f := odf h14f
  refine AW.skip ?_
  refine rs (ym ?_)
  refine ym ?_
  refine Y1 (Yv.remW rfl eV eV (by assumption)) ?_
  refine Y1 (Yv.assign rfl eV) ?_
  refine ya ?_
  refine AW.ret (retI (.tmp rfl (.tmp rfl .nil)) ?_)
  rw [valueF, if_neg (by omega), if_neg (by omega), if_neg (by omega), if_neg (by omega), if_neg (by omega), if_neg (by omega), if_neg (by omega), if_neg (by omega), if_neg (by omega), if_neg (by omega), if_neg (by omega), if_neg (by omega), if_neg (by omega), if_neg (by omega), if_neg (by omega), if_neg (by omega), if_neg (by omega), if_neg (by omega)]
  rw [if_neg (by assumption), if_neg (by omega)]
  exact ⟨rfl, List.sublist_append_left _ _⟩
 try replace h13f := odf h13f
 refine rs (Y1 (Yv.eql rfl eV eV) ?_)
 refine ya ?_
 refine AW.cond rfl (fun h15t => ?_) (fun h15f => ?_)
 ·try replace h15t := odt h15t
  refine rs (ym ?_)
  refine ym ?_
  refine Y1 (Yv.andW rfl eV eV) ?_
  refine Y1 (Yv.assign rfl eV) ?_
  refine ya ?_
  refine AW.ret (retI (.tmp rfl (.tmp rfl .nil)) ?_)
  rw [valueF, if_neg (by omega), if_neg (by omega), if_neg (by omega), if_neg (by omega), if_neg (by omega), if_neg (by omega), if_neg (by omega), if_neg (by omega), if_neg (by omega), if_neg (by omega), if_pos (by omega)]
  exact ⟨rfl, List.sublist_append_left _ _⟩
 try replace h15f := odf h15f
 refine rs (Y1 (Yv.eql rfl eV eV) ?_)
 refine ya ?_
 refine AW.cond rfl (fun h16t => ?_) (fun h16f => ?_)
 ·try replace h16t := odt h16t
  refine rs (ym ?_)
  refine ym ?_
  refine Y1 (Yv.orW rfl eV eV) ?_
  refine Y1 (Yv.assign rfl eV) ?_
  refine ya ?_
  refine AW.ret (retI (.tmp rfl (.tmp rfl .nil)) ?_)
  rw [valueF, if_neg (by omega), if_neg (by omega), if_neg (by omega), if_neg (by omega), if_neg (by omega), if_neg (by omega), if_neg (by omega), if_neg (by omega), if_neg (by omega), if_neg (by omega), if_neg (by omega), if_pos (by omega)]
  exact ⟨rfl, List.sublist_append_left _ _⟩
 try replace h16f := odf h16f
 refine rs (Y1 (Yv.eql rfl eV eV) ?_)
 refine ya ?_
 refine AW.cond rfl (fun h17t => ?_) (fun h17f => ?_)
 ·try replace h17t := odt h17t
  refine rs (ym ?_)
  refine ym ?_
  refine Y1 (Yv.xorW rfl eV eV) ?_
  refine Y1 (Yv.assign rfl eV) ?_
  refine ya ?_
  refine AW.ret (retI (.tmp rfl (.tmp rfl .nil)) ?_)
  rw [valueF, if_neg (by omega), if_neg (by omega), if_neg (by omega), if_neg (by omega), if_neg (by omega), if_neg (by omega), if_neg (by omega), if_neg (by omega), if_neg (by omega), if_neg (by omega), if_neg (by omega), if_neg (by omega), if_pos (by omega)]
  exact ⟨rfl, List.sublist_append_left _ _⟩
 try replace h17f := odf h17f
 refine rs (Y1 (Yv.eql rfl eV eV) ?_)
 refine ya ?_
 refine AW.cond rfl (fun h18t => ?_) (fun h18f => ?_)
 ·try replace h18t := odt h18t
  refine rs (ym ?_)
  refine ym ?_
  refine Y1 (Yv.shlW rfl eV eV (lt63 _)) ?_
  refine Y1 (Yv.assign rfl eV) ?_
  refine ya ?_
  refine AW.ret (retI (.tmp rfl (.tmp rfl .nil)) ?_)
  rw [valueF, if_neg (by omega), if_neg (by omega), if_neg (by omega), if_neg (by omega), if_neg (by omega), if_neg (by omega), if_neg (by omega), if_neg (by omega), if_neg (by omega), if_neg (by omega), if_neg (by omega), if_neg (by omega), if_neg (by omega), if_pos (by omega)]
  exact ⟨rfl, List.sublist_append_left _ _⟩
 try replace h18f := odf h18f
 refine rs (Y1 (Yv.eql rfl eV eV) ?_)
 refine ya ?_
 refine AW.cond rfl (fun h19t => ?_) (fun h19f => ?_)
 ·try replace h19t := odt h19t
  refine rs (ym ?_)
  refine ym ?_
  refine Y1 (Yv.shrW rfl eV eV (lt63 _)) ?_
  refine Y1 (Yv.assign rfl eV) ?_
  refine ya ?_
  refine AW.ret (retI (.tmp rfl (.tmp rfl .nil)) ?_)
  rw [valueF, if_neg (by omega), if_neg (by omega), if_neg (by omega), if_neg (by omega), if_neg (by omega), if_neg (by omega), if_neg (by omega), if_neg (by omega), if_neg (by omega), if_neg (by omega), if_neg (by omega), if_neg (by omega), if_neg (by omega), if_neg (by omega), if_pos (by omega)]
  exact ⟨rfl, List.sublist_append_left _ _⟩
 try replace h19f := odf h19f
 refine rs (Y1 (Yv.eql rfl eV eV) ?_)
 refine ya ?_
 refine AW.cond rfl (fun h20t => ?_) (fun h20f => ?_)
 ·try replace h20t := odt h20t
  refine rs (ym ?_)
  refine Y1 (Yv.conv rfl Tryz.underlying22 kd_2 eV) ?_
  refine ym ?_
  refine Y1 (Yv.shr (p := sI (rA x i.a)) rfl eV eV (fun _ => Int.natCast_nonneg _)) ?_
  refine Y1 (Yv.convW rfl Tryz.underlying2 kd_22 eV) ?_
  refine Y1 (Yv.assign rfl eV) ?_
  refine ya ?_
  refine AW.ret (retI (.tmp rfl (.tmp rfl .nil)) ?_)
  rw [valueF, if_neg (by omega), if_neg (by omega), if_neg (by omega), if_neg (by omega), if_neg (by omega), if_neg (by omega), if_neg (by omega), if_neg (by omega), if_neg (by omega), if_neg (by omega), if_neg (by omega), if_neg (by omega), if_neg (by omega), if_neg (by omega), if_neg (by omega), if_pos (by omega)]
  exact ⟨rfl, List.sublist_append_left _ _⟩
 try replace h20f := odf h20f
 refine rs (Y1 (Yv.eql rfl eV eV) ?_)
 refine ya ?_
 refine AW.cond rfl (fun h21t => ?_) (fun h21f => ?_)
 ·try replace h21t := odt h21t
  refine rs (yf fo_98_6 ?_)
  refine yl ag_3 6 ?_
  refine ym ?_
  refine ym ?_
  refine AWL.callT rfl rfl (B rfl) rfl ce_67 (E rfl rfl) (evsC (E rfl rfl) (evsC (E rfl rfl) (evsC (E rfl rfl) evs0))) (DHolds68 i.cond (rA x i.a) (rA x i.b)) ?_
  rintro t171 S171 rfl
  refine AWL.callT rfl rfl (B rfl) rfl ce_130 (E rfl rfl) (evsC (E rfl rfl) evs0) (Dnumber95 (holdsF i.cond (rA x i.a) (rA x i.b))) ?_
  rintro t172 S172 rfl
  refine Y1 (Yv.assign rfl eV) ?_
  refine ya ?_
  refine AW.ret (retI (.tmp rfl (.tmp rfl .nil)) ?_)
  rw [valueF, if_neg (by omega), if_neg (by omega), if_neg (by omega), if_neg (by omega), if_neg (by omega), if_neg (by omega), if_neg (by omega), if_neg (by omega), if_neg (by omega), if_neg (by omega), if_neg (by omega), if_neg (by omega), if_neg (by omega), if_neg (by omega), if_neg (by omega), if_neg (by omega), if_pos (by omega)]
  exact ⟨rfl, List.sublist_append_left _ _⟩
 try replace h21f := odf h21f
 refine AW.skip ?_
 refine rs (yf fo_98_7 ?_)
 refine yl ag_3 6 ?_
 refine ym ?_
 refine ym ?_
 refine AWL.callT rfl rfl (B rfl) rfl ce_131 (E rfl rfl) (evsC (E rfl rfl) (evsC (E rfl rfl) (evsC (E rfl rfl) evs0))) (DReal96 i.real (rA x i.a) (rA x i.b) (hre (by omega)).1 (hre (by omega)).2) ?_
 rintro t177 S177 rfl
 refine Y1 (Yv.assign rfl eV) ?_
 refine ya ?_
 refine AW.ret (retI (.tmp rfl (.tmp rfl .nil)) ?_)
 rw [valueF, if_neg (by omega), if_neg (by omega), if_neg (by omega), if_neg (by omega), if_neg (by omega), if_neg (by omega), if_neg (by omega), if_neg (by omega), if_neg (by omega), if_neg (by omega), if_neg (by omega), if_neg (by omega), if_neg (by omega), if_neg (by omega), if_neg (by omega), if_neg (by omega), if_neg (by omega), if_pos (by omega)]
 exact ⟨rfl, List.sublist_append_left _ _⟩

theorem Dvalue72 (s g n c : Nat) (ps : PS) (ob : Bool) (pre : List T) (x : Fr) (a : FA) (i : Ins) (hx : FrOk x) (hk : valK i.kind) (ha : (hasF i.kind).a = true → 0 ≤ i.a ∧ i.a < (x.nr : Int)) (hb : (hasF i.kind).b = true → 0 ≤ i.b ∧ i.b < (x.nr : Int)) (hs : i.kind = 31 → 0 ≤ i.imm ∧ i.imm < (x.ns : Int)) (hre : i.kind = 16 → 1 ≤ i.real ∧ i.real ≤ 8) : ACalls Tryz.prog 71 [pv s, .ep (.slice (some ⟨g, 0, none⟩) n c) pre.length, .agg (insCells i)] ([Ent.box s 75 (psD ps ob (.v (.slice (some ⟨g, 0, none⟩) n c))), Ent.row (some ⟨g, 0, none⟩) n c 116 7 (pre ++ frD x a)] ++ frE x a) (fun t S => t = .tup [zw (valueF realF ps.heap x i).1, bv (valueF realF ps.heap x i).2] ∧ S = [Ent.box s 75 (psD ps ob (.v (.slice (some ⟨g, 0, none⟩) n c))), Ent.row (some ⟨g, 0, none⟩) n c 116 7 (pre ++ frD x a)] ++ frE x a) :=
 (Dvalue72_ s g n c ps ob pre x a i hx hk ha hb hs hre).less fun t S' ⟨h1, h2⟩ => ⟨_, h2, h1, rfl⟩
end Go.Proofs.YtpgbpdnmjeoeoaaGreat

namespace Go.Proofs.YtpgbpdnmjeoeoaaGreat
open Go Go.RowKit

theorem lab_at {bs : List Nat} {j : Nat} (h : j < bs.length) : (bs.map mapT)[j * 1 + 0]? = some (mapT (bs.getD j 0)) := by
 rw [Nat.mul_one, Nat.add_zero, List.getElem?_map, List.getElem?_eq_getElem h]
 simp [h]

end Go.Proofs.YtpgbpdnmjeoeoaaGreat

namespace Go.Proofs.YtpgbpdnmjeoeoaaGreat
open Go Go.RowKit

theorem call_sub {X N C Y : St} : (X ++ N ++ C).Sublist (X ++ N ++ (C ++ Y)) := (List.sublist_append_left C Y).append_left _
theorem has_a23 {k : Int} (h : k = 23 ∨ k = 25) : (hasF k).a = true := by rcases h with rfl | rfl <;> rfl
theorem has_f {k : Int} (h : k = 22 ∨ k = 24) : (hasF k).f = true := by rcases h with rfl | rfl <;> rfl
theorem callee_23 {p : Prog} {x : Fr} {i : Ins} (h : i.kind = 23 ∨ i.kind = 25) (hb : badTo p x i = false) : calleeF p x i = some (toN x i).toNat := by
 rw [calleeF, if_pos h, if_neg (by rw [hb]; decide)]
theorem callee_22 {p : Prog} {x : Fr} {i : Ins} (h : ¬ (i.kind = 23 ∨ i.kind = 25)) : calleeF p x i = some i.f.toNat := by rw [calleeF, if_neg h]
theorem wI_len {n : Nat} (h : n ≤ 1048576) : (wI (n : Int)).toNat = n := by
 have := wI_nat (n : Int)
 rw [wrap_u64] at this
 omega
theorem to_lt' {p : Prog} {x : Fr} {i : Ins} (hpf : p.funs.length ≤ 1048576) (h : ¬ wI (p.funs.length : Int) ≤ toN x i) : (toN x i).toNat < p.funs.length := by
 have h1 : toN x i < wI (p.funs.length : Int) := BitVec.not_le.1 h
 rw [BitVec.lt_def, wI_len hpf] at h1
 exact h1
theorem callee_in {p : Prog} {x : Fr} {i : Ins} {f : Nat} (hp : ProgOk p) (hpf : p.funs.length ≤ 1048576) (hf : (hasF i.kind).f = true → (0 ≤ i.f ∧ i.f.toNat < p.funs.length) ∧ (i.args.length : Int) = parF p i.f) (hkd : i.kind = 22 ∨ i.kind = 23 ∨ i.kind = 24 ∨ i.kind = 25) (h : calleeF p x i = some f) :
    f < p.funs.length ∧ ((i.args.map (rA x)).length : Int) ≤ (p.funs.getD f default).regs := by
 rw [List.length_map]
 unfold calleeF at h
 split at h
 ·split at h
  ·cases h
  rename_i hb
  cases h
  have hb' : badTo p x i = false := by simpa using hb
  unfold badTo at hb'
  simp only [Bool.or_eq_false_iff, decide_eq_false_iff_not, Bool.not_eq_false', decide_eq_true_eq] at hb'
  have h1 := to_lt' hpf hb'.1.2
  have h2 := (hp.fn _ (getD_mem h1)).par2
  exact ⟨h1, by have := hb'.2; omega⟩
 cases h
 obtain ⟨h1, h2⟩ := hf (has_f (by omega))
 have h3 := (hp.fn _ (getD_mem h1.2)).par2
 unfold parF at h2
 exact ⟨h1.2, by omega⟩
theorem fn_regs {p : Prog} {f : Nat} (hp : ProgOk p) (hf : f < p.funs.length) : 0 ≤ (p.funs.getD f default).regs ∧ (p.funs.getD f default).regs ≤ 65536 ∧ 0 ≤ (p.funs.getD f default).slots ∧ (p.funs.getD f default).slots ≤ 1048576 := by
 have h := hp.fn _ (getD_mem hf)
 have := h.par0
 have := h.par2
 exact ⟨by omega, h.regs, h.slot0, h.slot1⟩
end Go.Proofs.YtpgbpdnmjeoeoaaGreat
