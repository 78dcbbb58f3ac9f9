/-
  TEXTS JOINED: VWk3, VWk4, VOpenF, VWk5, VRead, VWr, VNew, VWk8, VPw, VDs, VDo, VDf, VDn, VDg, VWk20, VRg, Wz, Wk25, Aw32, Aw33, Wk26, Wk27, Wk28, Wk29, Wk30.
-/
import Derived.Lib.SliceRun
import Derived.Test.YtlfklgganokgdaaSd
set_option linter.unusedSimpArgs false
set_option linter.unusedVariables false
set_option linter.unusedSectionVars false
set_option linter.unnecessarySimpa false
namespace Go.Proofs.Ytlfklgganokgdaa.V
open Go Go.RowKit

set_option maxHeartbeats 400000 in
theorem cloneEv31 (A : Option Addr) (n c : Nat) (cs : List T) (hl : cs.length = n * 3) (hn : n ≤ 1099511627776) :
    ACalls Try.prog 33 [.v (.slice A n c)] [.row A n c 90 3 cs] (fun t S => t = .sl 3 cs ∧ S = [.row A n c 90 3 cs]) := by
 refine ACalls.intro Try.func33 rfl Try.ntmps33 nB rfl fun X w0 => ?_
 refine ra ?_
 refine AW.seq ?_
 refine AW.rowFact 0 rfl (fun hnone => ?_)
 refine rs (ym ?_)
 refine Y1 (Yv.eqNilV rfl so_44 eV) (nl ?_)
 refine AW.cond rfl (fun h0t => ?_) (fun h0f => ?_)
 ·refine ra ?_
  obtain ⟨rfl, rfl, rfl⟩ := hnone (Option.isNone_iff_eq_none.1 h0t)
  refine AW.retype (k := 2) rfl (nil_sl (k := 3) (by unfold maxLen; omega)) ?_
  refine AW.ret (retI (.tmp rfl .nil) ?_)
  obtain rfl := Option.isNone_iff_eq_none.1 h0t
  exact ⟨rfl, rfl⟩
 refine AW.skip ?_
 refine rs ?_
 refine AWL.buildSliceRow rfl rfl (B rfl) rfl el_44 (B rfl) rfl evs0 nB rfl rfl (fun A5 => ?_)
 refine ym ?_
 refine AWL.appendRow (i := 1) rfl rfl (B rfl) rfl el_44 (B rfl) rfl (E rfl rfl) (SrcT.row so_44 (i := 0) rfl (E rfl rfl)) (by unfold maxLen; omega) (by omega) (fun A7 c7 => ?_)
 refine ya ?_
 refine AW.freeze 1 2 rfl (B rfl) rfl ?_
 refine AW.ret (retI (.tmp rfl .nil) ?_)
 exact ⟨rfl, rfl⟩

set_option maxHeartbeats 400000 in
theorem Trace14 (b m : Nat) (ws : WS) (n : Nat) (hw : WB n ws) (hn : n ≤ 1099511627776) :
    ACalls Try.prog 19 [wp b] (WSt b m ws) (fun t S => t = .sl 3 (ws.trace.flatMap evCells) ∧ S = WSt b m ws) := by
 obtain ⟨ho, htr, htx, hfl, hpl, hsi⟩ := hw
 refine ACalls.intro Try.func19 rfl Try.ntmps19 nB rfl fun X w0 => ?_
 refine ra ?_
 refine AW.seq ?_
 refine rs (ym ?_)
 refine Y1 (Yv.eqlNilP rfl pn_34 eV) (nl ?_)
 refine AW.cond rfl (fun h0t => ?_) (fun h0f => ?_)
 ·cases h0t
 refine AW.skip ?_
 refine AW.perm rot3 ?_
 refine rs (ym ?_)
 refine Y1 (Yv.nilChk rfl eV) ?_
 refine yf fo_70_3 ?_
 refine Y1 (Yv.loadBox rfl ag_44 (i := 1) rfl eV (trace_at ho)) ?_
 refine C1 rfl ce_33 (E rfl rfl) (evsC (E rfl rfl) evs0) (S1 := [.row ws.tA ws.trace.length ws.tc 90 3 (ws.trace.flatMap evCells)]) (S2 := _) rfl (cloneEv31 ws.tA ws.trace.length ws.tc _ len_ev (by omega)) ?_
 rintro t9 S9 ⟨rfl, rfl⟩
 refine ya ?_
 refine AW.perm rot3' ?_
 refine AW.ret (retI (.tmp rfl .nil) ?_)
 exact ⟨rfl, rfl⟩

set_option maxHeartbeats 400000 in
theorem SysClose18 (b m : Nat) (ws : WS) (j n : Nat) (hj : j < 19) (hw : WB n ws) :
    ACalls Try.prog 69 [wp b, .v (.int .i64 (j : Int))] (WSt b m ws) (fun t S => t = .v (.int .i64 (if (ws.opn.getD j default).kind = 0 then -9 else 0)) ∧ S = WSt b m { ws with opn := closeF j ws.opn }) := by
 obtain ⟨ho, htr, htx, hfl, hpl, hsi⟩ := hw
 refine ACalls.intro Try.func69 rfl Try.ntmps69 nB rfl fun X w0 => ?_
 refine ra ?_
 refine rs (ym ?_)
 refine ym ?_
 refine AWL.callP rfl rfl (B rfl) rfl ce_78 (E rfl rfl) (evsC (E rfl rfl) (evsC (E rfl rfl) evs0)) (at29 b j hj) (fun t S h => h) ?_
 refine ya ?_
 refine AW.seq ?_
 refine rs (ym ?_)
 refine Y1 (Yv.nilChk rfl eV) ?_
 refine yf fo_67_0 ?_
 refine Y1 (Yv.loadBox rfl ag_3 (i := 0) rfl eV (kind_at (by omega))) ?_
 refine Y1 (Yv.eql rfl eV eV) (nl ?_)
 refine AW.cond rfl (fun h0t => ?_) (fun h0f => ?_)
 ·try replace h0t := odt h0t
  refine ra ?_
  refine AW.ret (retI (.tmp rfl .nil) ?_)
  unfold closeF
  rw [if_pos h0t, if_pos h0t]
  exact ⟨rfl, rfl⟩
 try replace h0f := odf h0f
 refine AW.skip ?_
 refine rs (ym ?_)
 refine Y1 (Yv.buildS rfl sh_67 evp0 (fun _ => rfl)) ?_
 refine Y1 (Yv.nilChk rfl eV) ?_
 refine AWL.storeBox (i := 0) rfl rfl rfl ag_67 rfl (E rfl rfl) (E rfl rfl) rfl rfl (by rw [wCells_len, ho]; omega) (nl ?_)
 refine ra ?_
 refine AW.ret (retI (.tmp rfl .nil) ?_)
 have e := set_desc (m := m) (s := ws.stdin) (A := ws.tA) (n := ws.trace.length) (c := ws.tc) (show j < ws.opn.length by omega) 0 3 (descCells ⟨0, [], 0⟩) ⟨0, [], 0⟩ (by decide) rfl
 unfold closeF
 rw [if_neg h0f, if_neg h0f]
 refine ⟨rfl, ?_⟩
 simp only [WSt]
 rw [← e]; rfl

set_option maxHeartbeats 400000 in
theorem SysWrite13_2 (b m : Nat) (ws : WS) (j : Nat) (s : List UInt8) (n : Nat) (hj : j < 19) (hk : (ws.opn.getD j default).kind = 2) (hw : WB n ws) (hn : n ≤ 1099511627776) (hs : s.length ≤ 1099511627776) :
    ACalls Try.prog 76 [wp b, .v (.int .i64 (j : Int)), sv s] (WSt b m ws) (fun t S => t = .v (.int .i64 (s.length : Int)) ∧ ∃ A c, S = WSt b m { ws with trace := sayF 1 [] s ws.trace, tA := A, tc := c }) := by
 obtain ⟨ho, htr, htx, hfl, hpl, hsi⟩ := hw
 refine ACalls.intro Try.func76 rfl Try.ntmps76 nB rfl fun X w0 => ?_
 refine ra ?_
 refine rs (ym ?_)
 refine ym ?_
 refine AWL.callP rfl rfl (B rfl) rfl ce_78 (E rfl rfl) (evsC (E rfl rfl) (evsC (E rfl rfl) evs0)) (at29 b j hj) (fun t S h => h) ?_
 refine ya ?_
 refine AW.seq ?_
 refine rs (ym ?_)
 refine Y1 (Yv.nilChk rfl eV) ?_
 refine yf fo_67_0 ?_
 refine Y1 (Yv.loadBox rfl ag_3 (i := 0) rfl eV (kind_at (by omega))) (nl ?_)
 refine AW.block ?_
 refine rs (Y1 (Yv.eql rfl eV eV) ?_)
 refine ya ?_
 refine AW.cond rfl (fun h0t => ?_) (fun h0f => ?_)
 ·try replace h0t := odt h0t
  refine AW.region ?_
  refine ym ?_
  refine ym ?_
  refine AWL.callAll rfl rfl (B rfl) rfl ce_81 (E rfl rfl) (evsC (E rfl rfl) (evsC (E rfl rfl) (evsC (E rfl rfl) (evsC (E rfl rfl) evs0)))) (say30 b m ws 1 [] s n ⟨ho, htr, htx, hfl, hpl, hsi⟩ hn hs) ?_
  rintro t21 S21 ⟨rfl, A21, c21, rfl⟩
  refine nl ?_
  refine rs (ym ?_)
  refine Y1 (Yv.lenL rfl st_9 eV) ?_
  refine ya ?_
  refine AW.ret (retI (.tmp rfl .nil) ?_)
  exact ⟨rfl, _, _, rfl⟩
 try replace h0f := odf h0f
 omega

set_option maxHeartbeats 400000 in
theorem SysWrite13_3 (b m : Nat) (ws : WS) (j : Nat) (s : List UInt8) (n : Nat) (hj : j < 19) (hk : (ws.opn.getD j default).kind = 3) (hw : WB n ws) (hn : n ≤ 1099511627776) (hs : s.length ≤ 1099511627776) :
    ACalls Try.prog 76 [wp b, .v (.int .i64 (j : Int)), sv s] (WSt b m ws) (fun t S => t = .v (.int .i64 (s.length : Int)) ∧ ∃ A c, S = WSt b m { ws with trace := sayF 2 [] s ws.trace, tA := A, tc := c }) := by
 obtain ⟨ho, htr, htx, hfl, hpl, hsi⟩ := hw
 refine ACalls.intro Try.func76 rfl Try.ntmps76 nB rfl fun X w0 => ?_
 refine ra ?_
 refine rs (ym ?_)
 refine ym ?_
 refine AWL.callP rfl rfl (B rfl) rfl ce_78 (E rfl rfl) (evsC (E rfl rfl) (evsC (E rfl rfl) evs0)) (at29 b j hj) (fun t S h => h) ?_
 refine ya ?_
 refine AW.seq ?_
 refine rs (ym ?_)
 refine Y1 (Yv.nilChk rfl eV) ?_
 refine yf fo_67_0 ?_
 refine Y1 (Yv.loadBox rfl ag_3 (i := 0) rfl eV (kind_at (by omega))) (nl ?_)
 refine AW.block ?_
 refine rs (Y1 (Yv.eql rfl eV eV) ?_)
 refine ya ?_
 refine AW.cond rfl (fun h0t => ?_) (fun h0f => ?_)
 ·try replace h0t := odt h0t
  omega
 try replace h0f := odf h0f
 refine rs (Y1 (Yv.eql rfl eV eV) ?_)
 refine ya ?_
 refine AW.cond rfl (fun h1t => ?_) (fun h1f => ?_)
 ·try replace h1t := odt h1t
  refine AW.region ?_
  refine ym ?_
  refine ym ?_
  refine AWL.callAll rfl rfl (B rfl) rfl ce_81 (E rfl rfl) (evsC (E rfl rfl) (evsC (E rfl rfl) (evsC (E rfl rfl) (evsC (E rfl rfl) evs0)))) (say30 b m ws 2 [] s n ⟨ho, htr, htx, hfl, hpl, hsi⟩ hn hs) ?_
  rintro t26 S26 ⟨rfl, A26, c26, rfl⟩
  refine nl ?_
  refine rs (ym ?_)
  refine Y1 (Yv.lenL rfl st_9 eV) ?_
  refine ya ?_
  refine AW.ret (retI (.tmp rfl .nil) ?_)
  exact ⟨rfl, _, _, rfl⟩
 try replace h1f := odf h1f
 omega

end Go.Proofs.Ytlfklgganokgdaa.V

namespace Go.Proofs.Ytlfklgganokgdaa.V
open Go Go.RowKit

set_option maxHeartbeats 2000000 in
theorem SysWrite13_5 (b m : Nat) (ws : WS) (j q : Nat) (s : List UInt8) (n : Nat) (hj : j < 19) (hk : (ws.opn.getD j default).kind = 5) (hq : q < ws.files.length) (hu : Uniq ws.files) (hnm : (ws.opn.getD j default).name = (ws.files.getD q default).name) (hw : WB n ws) (hn : n ≤ 549755813888) (hs : s.length ≤ 549755813888) :
    ACalls Try.prog 76 [wp b, .v (.int .i64 (j : Int)), sv s] (WSt b m ws) (fun t S => t = .v (.int .i64 (s.length : Int)) ∧ ∃ A c tA tc, S = WSt b m (wrF j q s A c tA tc ws)) := by
 obtain ⟨ho, htr, htx, hfl, hpl, hsi⟩ := hw
 have hpj : (ws.opn.getD j default).place ≤ n := hpl _ (getD_mem' (by omega))
 have hfq : (ws.files.getD q default).bytes.length ≤ n := hfl _ (getD_mem' hq)
 refine ACalls.intro Try.func76 rfl Try.ntmps76 nB rfl fun X w0 => ?_
 refine ra ?_
 refine rs (ym ?_)
 refine ym ?_
 refine AWL.callP rfl rfl (B rfl) rfl ce_78 (E rfl rfl) (evsC (E rfl rfl) (evsC (E rfl rfl) evs0)) (at29 b j hj) (fun t S h => h) ?_
 refine ya ?_
 refine AW.seq ?_
 refine rs (ym ?_)
 refine Y1 (Yv.nilChk rfl eV) ?_
 refine yf fo_67_0 ?_
 refine Y1 (Yv.loadBox rfl ag_3 (i := 0) rfl eV (kind_at (by omega))) (nl ?_)
 refine AW.block ?_
 refine rs (Y1 (Yv.eql rfl eV eV) ?_)
 refine ya ?_
 refine AW.cond rfl (fun h0t => ?_) (fun h0f => ?_)
 ·try replace h0t := odt h0t
  omega
 try replace h0f := odf h0f
 refine rs (Y1 (Yv.eql rfl eV eV) ?_)
 refine ya ?_
 refine AW.cond rfl (fun h1t => ?_) (fun h1f => ?_)
 ·try replace h1t := odt h1t
  omega
 try replace h1f := odf h1f
 refine rs (Y1 (Yv.eql rfl eV eV) ?_)
 refine ya ?_
 refine AW.cond rfl (fun h2t => ?_) (fun h2f => ?_)
 ·try replace h2t := odt h2t
  refine rs (ym ?_)
  refine Y1 (Yv.neqL rfl eV eV) (nl ?_)
  refine AW.cond rfl (fun h3t => ?_) (fun h3f => ?_)
  ·simp only [Bool.or_eq_true, Bool.and_eq_true, Bool.or_eq_false_iff, Bool.and_eq_false_iff, Bool.not_eq_true', Bool.not_eq_false', decide_eq_true_eq, decide_eq_false_iff_not, Decidable.not_not] at h3t
   have hs0 : s ≠ [] := by simpa using h3t
   refine AW.rseqQ rfl (by kernel_rfl) ?_
   refine qm ?_
   refine Q1 (Yv.nilChk rfl eV) ?_
   refine qf fo_70_0 ?_
   refine ql ag_64 0 ?_
   refine qm ?_
   refine Q1 (Yv.nilChk rfl eV) ?_
   refine qf fo_67_1 ?_
   refine Q1 (Yv.loadBox rfl ag_9 (i := 0) rfl eV (name_at (by omega))) ?_
   refine Q1 (Yv.eqT (t' := .v (.slice (ws.files.getD q default).A (ws.files.getD q default).bytes.length (ws.files.getD q default).c)) (Yv.lookup1 (k := .s _) (i := 1) rfl mp_64 rfl eV eV rfl (files_good _)) (by rw [hnm, get_file hu hq]; rfl)) ?_
   refine Q1 (Yv.assign rfl eV) ?_
   refine AWQ.nil ?_
   refine AW.mid (α := Option Addr × Nat) (fun r => [(0, true, wp b), (2, true, sv s), (7, true, .v (.pointer (some ⟨b, 2 + j * 3, none⟩))), (8, true, .v (.slice r.1 (padTo (ws.files.getD q default).bytes ((ws.opn.getD j default).place + s.length)).length r.2))]) (fun r => (WSt b m ws).set (q + 3) (.row r.1 (padTo (ws.files.getD q default).bytes ((ws.opn.getD j default).place + s.length)).length r.2 5 1 (List.map u8 (padTo (ws.files.getD q default).bytes ((ws.opn.getD j default).place + s.length))))) (fun _ => True) ?_ ?_
   ·refine rs (ym ?_)
    refine Y1 (Yv.nilChk rfl eV) ?_
    refine yf fo_67_2 ?_
    refine Y1 (Yv.loadBox rfl ag_3 (i := 0) rfl eV (place_at (by omega))) ?_
    refine ym ?_
    refine Y1 (Yv.lenL rfl st_9 eV) ?_
    refine Y1 (Yv.addN_i64 rfl eV eV (fun hg => by omega)) ?_
    refine ym ?_
    refine Y1 (Yv.lenV rfl so_23 eV) ?_
    refine Y1 (Yv.subN_i64 rfl eV eV (fun hg => by omega)) ?_
    refine ya ?_
    refine rs (ym ?_)
    refine Y1 (Yv.gtr rfl eV eV) (nl ?_)
    refine AW.cond rfl (fun h4t => ?_) (fun h4f => ?_)
    ·try replace h4t := odt h4t
     have egap : (((ws.opn.getD j default).place : Int) + (s.length : Int) - ((ws.files.getD q default).bytes.length : Int)) = (((ws.opn.getD j default).place + s.length - (ws.files.getD q default).bytes.length : Nat) : Int) := by omega
     rw [egap]
     refine AW.region ?_
     refine ym ?_
     refine ym ?_
     refine AWL.appendZerosAny (m := (ws.opn.getD j default).place + s.length - (ws.files.getD q default).bytes.length) (i := q + 3) rfl rfl (B rfl) rfl el_23 kd_3 (by omega) (file_row hq) (E rfl rfl) (E rfl rfl) (by unfold maxLen; omega) (by omega) (fun A54 c54 => ?_)
     refine ya ?_
     have el : (padTo (ws.files.getD q default).bytes ((ws.opn.getD j default).place + s.length)).length = (ws.files.getD q default).bytes.length + ((ws.opn.getD j default).place + s.length - (ws.files.getD q default).bytes.length) := by rw [padTo_len]; omega
     refine ⟨(A54, c54), trivial, ?_, ?_⟩
     ·exact (su (su (su (Sub.cons rfl (by rw [el]) Sub.nil))))
     rw [el]
     unfold padTo
     rw [← pad_cells] <;> rfl
    try replace h4f := odf h4f
    refine AW.skip ?_
    have el : (padTo (ws.files.getD q default).bytes ((ws.opn.getD j default).place + s.length)) = (ws.files.getD q default).bytes := padTo_id (by omega)
    refine ⟨((ws.files.getD q default).A, (ws.files.getD q default).c), trivial, ?_, ?_⟩
    ·exact (su (su (su (Sub.cons rfl (by rw [el] <;> rfl) Sub.nil))))
    rw [el]; exact (wst_same hq).symm
   rintro ⟨A1, c1⟩ _
   have hgl : (padTo (ws.files.getD q default).bytes ((ws.opn.getD j default).place + s.length)).length = max (ws.files.getD q default).bytes.length ((ws.opn.getD j default).place + s.length) := padTo_len _ _
   have hlen0 : 0 < s.length := List.length_pos_iff.2 hs0
   refine rs (ym ?_)
   refine ym ?_
   refine Y1 (Yv.nilChk rfl eV) ?_
   refine yf fo_67_2 ?_
   refine Y1 (Yv.loadBox rfl ag_3 (i := 0) rfl eV (place_at (by omega))) ?_
   refine Y1 (Yv.sliceRowFrom (i := q + 3) (lo := (ws.opn.getD j default).place) rfl ss_23 (file_row_set hq _) eV (Bound.some_ eV (fun _ => rfl)) (fun hg => by omega)) ?_
   refine ym ?_
   refine AWL.copyRowAt (i := q + 3) (lo := (ws.opn.getD j default).place) (m := s.length) rfl rfl (B rfl) rfl el_23 (file_row_set hq _) (E rfl rfl) (SrcT.strL st_9 (E rfl rfl)) (by omega) hlen0 (nl ?_)
   refine AW.rseqP rfl ?_
   refine T1 (i := 0) rfl (freeMove rfl (E rfl rfl)) ?_
   refine T1 (i := 1) rfl (freeNil rfl (E rfl rfl)) ?_
   refine T1 (i := 2) rfl (freeField rfl fo_70_0 (E rfl rfl)) ?_
   refine T1 (i := 4) rfl (freeMove rfl (E rfl rfl)) ?_
   refine T1 (i := 5) rfl (freeNil rfl (E rfl rfl)) ?_
   refine T1 (i := 6) rfl (freeField rfl fo_67_1 (E rfl rfl)) ?_
   refine T1 (i := 8) rfl (freeMove rfl (E rfl rfl)) ?_
   refine AWP.two (i := 3) (j := 7) (by kernel_rfl) rfl rfl ?_ ?_
   ·refine yl ag_64 0 (nl ?_)
    refine p1 7 ?_
    refine Y1 (Yv.loadBox rfl ag_9 (i := 0) rfl eV (name_at (by omega))) (nl ?_)
    refine p1 9 ?_
    refine AWL.mapUpd (k := .s _) (i := 1) (r := .v (.slice A1 (padTo (ws.files.getD q default).bytes ((ws.opn.getD j default).place + s.length)).length c1)) rfl rfl (.inl rfl) mp_64 rfl (E rfl rfl) (E rfl rfl) (E rfl rfl) rfl rfl (files_good _) (nl ?_)
    refine AWP.done (by kernel_rfl) ?_
    refine rs (ym ?_)
    refine Y1 (Yv.nilChk rfl eV) ?_
    refine yf fo_67_2 ?_
    refine Y1 (Yv.loadBox rfl ag_3 (i := 0) rfl eV (place_at (by omega))) ?_
    refine ym ?_
    refine Y1 (Yv.lenL rfl st_9 eV) ?_
    refine Y1 (Yv.addN_i64 rfl eV eV (fun hg => by omega)) ?_
    refine Y1 (Yv.nilChk rfl eV) ?_
    refine yf fo_67_2 ?_
    refine AWL.storeBox (i := 0) rfl rfl rfl ag_3 rfl (E rfl rfl) (E rfl rfl) rfl rfl (by rw [wCells_len, ho]; omega) (nl ?_)
    refine AW.eqS (S' := WSt b m { ws with files := ws.files.set q { (ws.files.getD q default) with bytes := writeAt (ws.files.getD q default).bytes (ws.opn.getD j default).place s, A := A1, c := c1 }, opn := ws.opn.set j { (ws.opn.getD j default) with place := (ws.opn.getD j default).place + s.length } }) ?_ ?_
    ·have e0 : { (ws.files.getD q default) with bytes := writeAt (ws.files.getD q default).bytes (ws.opn.getD j default).place s, A := A1, c := c1 }.bytes.length = (padTo (ws.files.getD q default).bytes ((ws.opn.getD j default).place + s.length)).length := by rw [hgl]; exact writeAt_len _ _ _
     have e1 := put_file { (ws.files.getD q default) with bytes := writeAt (ws.files.getD q default).bytes (ws.opn.getD j default).place s, A := A1, c := c1 } hu hq rfl
     have e2 := set_desc (m := m) (s := ws.stdin) (A := ws.tA) (n := ws.trace.length) (c := ws.tc) (show j < ws.opn.length by omega) 2 1 [.v (.int .i64 (((ws.opn.getD j default).place + s.length : Nat) : Int))] { (ws.opn.getD j default) with place := (ws.opn.getD j default).place + s.length } (by decide) rfl
     have e3 := writeAt_cells (ws.files.getD q default).bytes (ws.opn.getD j default).place s
     have e4 : fileRow { (ws.files.getD q default) with bytes := writeAt (ws.files.getD q default).bytes (ws.opn.getD j default).place s, A := A1, c := c1 } = .row A1 (padTo (ws.files.getD q default).bytes ((ws.opn.getD j default).place + s.length)).length c1 5 1 ((List.map u8 (padTo (ws.files.getD q default).bytes ((ws.opn.getD j default).place + s.length))).take (ws.opn.getD j default).place ++ List.map u8 s ++ (List.map u8 (padTo (ws.files.getD q default).bytes ((ws.opn.getD j default).place + s.length))).drop ((ws.opn.getD j default).place + s.length)) := by
      unfold fileRow; rw [e3]; simp only; rw [writeAt_len, hgl]
     simp only [e0] at e1
     rw [← wst_wrote { (ws.files.getD q default) with bytes := (padTo (ws.files.getD q default).bytes ((ws.opn.getD j default).place + s.length)), A := A1, c := c1 } { (ws.files.getD q default) with bytes := writeAt (ws.files.getD q default).bytes (ws.opn.getD j default).place s, A := A1, c := c1 } { (ws.opn.getD j default) with place := (ws.opn.getD j default).place + s.length }, ← e1, ← e2, e4, hnm]
     rfl
    have hw2 : WB (n + s.length) { ws with files := ws.files.set q { (ws.files.getD q default) with bytes := writeAt (ws.files.getD q default).bytes (ws.opn.getD j default).place s, A := A1, c := c1 }, opn := ws.opn.set j { (ws.opn.getD j default) with place := (ws.opn.getD j default).place + s.length } } := wb_wrote hj hq ⟨ho, htr, htx, hfl, hpl, hsi⟩ _ _
    have hgd : (ws.opn.set j { (ws.opn.getD j default) with place := (ws.opn.getD j default).place + s.length }).getD j default = { (ws.opn.getD j default) with place := (ws.opn.getD j default).place + s.length } := getD_set (by omega) _ _
    refine AW.region ?_
    refine ym ?_
    refine ym ?_
    refine Y1 (Yv.nilChk rfl eV) ?_
    refine yf fo_67_1 ?_
    refine Y1 (Yv.loadBox rfl ag_9 (i := 0) rfl eV (r := sv (ws.opn.getD j default).name) ((name_at (by rw [List.length_set]; omega)).trans (by rw [hgd]))) ?_
    refine ym ?_
    refine AWL.callAll rfl rfl (B rfl) rfl ce_81 (E rfl rfl) (evsC (E rfl rfl) (evsC (E rfl rfl) (evsC (E rfl rfl) (evsC (E rfl rfl) evs0)))) (say30 b m { ws with files := ws.files.set q { (ws.files.getD q default) with bytes := writeAt (ws.files.getD q default).bytes (ws.opn.getD j default).place s, A := A1, c := c1 }, opn := ws.opn.set j { (ws.opn.getD j default) with place := (ws.opn.getD j default).place + s.length } } 3 (ws.opn.getD j default).name s (n + s.length) hw2 (by omega) (by omega)) ?_
    rintro t87 S87 ⟨rfl, A87, c87, rfl⟩
    refine nl ?_
    refine rs (ym ?_)
    refine Y1 (Yv.lenL rfl st_9 eV) ?_
    refine ya ?_
    refine AW.ret (retI (.tmp rfl .nil) ?_)
    first
     | exact ⟨rfl, none, 0, none, 0, by unfold wrF; rw [if_pos h3f]⟩
     | exact ⟨rfl, A1, c1, A87, c87, by unfold wrF; rw [if_neg hs0]⟩
   refine Y1 (Yv.loadBox rfl ag_9 (i := 0) rfl eV (name_at (by omega))) (nl ?_)
   refine p1 3 ?_
   refine yl ag_64 0 (nl ?_)
   refine p1 9 ?_
   refine AWL.mapUpd (k := .s _) (i := 1) (r := .v (.slice A1 (padTo (ws.files.getD q default).bytes ((ws.opn.getD j default).place + s.length)).length c1)) rfl rfl (.inl rfl) mp_64 rfl (E rfl rfl) (E rfl rfl) (E rfl rfl) rfl rfl (files_good _) (nl ?_)
   refine AWP.done (by kernel_rfl) ?_
   refine rs (ym ?_)
   refine Y1 (Yv.nilChk rfl eV) ?_
   refine yf fo_67_2 ?_
   refine Y1 (Yv.loadBox rfl ag_3 (i := 0) rfl eV (place_at (by omega))) ?_
   refine ym ?_
   refine Y1 (Yv.lenL rfl st_9 eV) ?_
   refine Y1 (Yv.addN_i64 rfl eV eV (fun hg => by omega)) ?_
   refine Y1 (Yv.nilChk rfl eV) ?_
   refine yf fo_67_2 ?_
   refine AWL.storeBox (i := 0) rfl rfl rfl ag_3 rfl (E rfl rfl) (E rfl rfl) rfl rfl (by rw [wCells_len, ho]; omega) (nl ?_)
   refine AW.eqS (S' := WSt b m { ws with files := ws.files.set q { (ws.files.getD q default) with bytes := writeAt (ws.files.getD q default).bytes (ws.opn.getD j default).place s, A := A1, c := c1 }, opn := ws.opn.set j { (ws.opn.getD j default) with place := (ws.opn.getD j default).place + s.length } }) ?_ ?_
   ·have e0 : { (ws.files.getD q default) with bytes := writeAt (ws.files.getD q default).bytes (ws.opn.getD j default).place s, A := A1, c := c1 }.bytes.length = (padTo (ws.files.getD q default).bytes ((ws.opn.getD j default).place + s.length)).length := by rw [hgl]; exact writeAt_len _ _ _
    have e1 := put_file { (ws.files.getD q default) with bytes := writeAt (ws.files.getD q default).bytes (ws.opn.getD j default).place s, A := A1, c := c1 } hu hq rfl
    have e2 := set_desc (m := m) (s := ws.stdin) (A := ws.tA) (n := ws.trace.length) (c := ws.tc) (show j < ws.opn.length by omega) 2 1 [.v (.int .i64 (((ws.opn.getD j default).place + s.length : Nat) : Int))] { (ws.opn.getD j default) with place := (ws.opn.getD j default).place + s.length } (by decide) rfl
    have e3 := writeAt_cells (ws.files.getD q default).bytes (ws.opn.getD j default).place s
    have e4 : fileRow { (ws.files.getD q default) with bytes := writeAt (ws.files.getD q default).bytes (ws.opn.getD j default).place s, A := A1, c := c1 } = .row A1 (padTo (ws.files.getD q default).bytes ((ws.opn.getD j default).place + s.length)).length c1 5 1 ((List.map u8 (padTo (ws.files.getD q default).bytes ((ws.opn.getD j default).place + s.length))).take (ws.opn.getD j default).place ++ List.map u8 s ++ (List.map u8 (padTo (ws.files.getD q default).bytes ((ws.opn.getD j default).place + s.length))).drop ((ws.opn.getD j default).place + s.length)) := by
     unfold fileRow; rw [e3]; simp only; rw [writeAt_len, hgl]
    simp only [e0] at e1
    rw [← wst_wrote { (ws.files.getD q default) with bytes := (padTo (ws.files.getD q default).bytes ((ws.opn.getD j default).place + s.length)), A := A1, c := c1 } { (ws.files.getD q default) with bytes := writeAt (ws.files.getD q default).bytes (ws.opn.getD j default).place s, A := A1, c := c1 } { (ws.opn.getD j default) with place := (ws.opn.getD j default).place + s.length }, ← e1, ← e2, e4, hnm]
    rfl
   have hw2 : WB (n + s.length) { ws with files := ws.files.set q { (ws.files.getD q default) with bytes := writeAt (ws.files.getD q default).bytes (ws.opn.getD j default).place s, A := A1, c := c1 }, opn := ws.opn.set j { (ws.opn.getD j default) with place := (ws.opn.getD j default).place + s.length } } := wb_wrote hj hq ⟨ho, htr, htx, hfl, hpl, hsi⟩ _ _
   have hgd : (ws.opn.set j { (ws.opn.getD j default) with place := (ws.opn.getD j default).place + s.length }).getD j default = { (ws.opn.getD j default) with place := (ws.opn.getD j default).place + s.length } := getD_set (by omega) _ _
   refine AW.region ?_
   refine ym ?_
   refine ym ?_
   refine Y1 (Yv.nilChk rfl eV) ?_
   refine yf fo_67_1 ?_
   refine Y1 (Yv.loadBox rfl ag_9 (i := 0) rfl eV (r := sv (ws.opn.getD j default).name) ((name_at (by rw [List.length_set]; omega)).trans (by rw [hgd]))) ?_
   refine ym ?_
   refine AWL.callAll rfl rfl (B rfl) rfl ce_81 (E rfl rfl) (evsC (E rfl rfl) (evsC (E rfl rfl) (evsC (E rfl rfl) (evsC (E rfl rfl) evs0)))) (say30 b m { ws with files := ws.files.set q { (ws.files.getD q default) with bytes := writeAt (ws.files.getD q default).bytes (ws.opn.getD j default).place s, A := A1, c := c1 }, opn := ws.opn.set j { (ws.opn.getD j default) with place := (ws.opn.getD j default).place + s.length } } 3 (ws.opn.getD j default).name s (n + s.length) hw2 (by omega) (by omega)) ?_
   rintro t87 S87 ⟨rfl, A87, c87, rfl⟩
   refine nl ?_
   refine rs (ym ?_)
   refine Y1 (Yv.lenL rfl st_9 eV) ?_
   refine ya ?_
   refine AW.ret (retI (.tmp rfl .nil) ?_)
   first
    | exact ⟨rfl, none, 0, none, 0, by unfold wrF; rw [if_pos h3f]⟩
    | exact ⟨rfl, A1, c1, A87, c87, by unfold wrF; rw [if_neg hs0]⟩
  simp only [Bool.or_eq_true, Bool.and_eq_true, Bool.or_eq_false_iff, Bool.and_eq_false_iff, Bool.not_eq_true', Bool.not_eq_false', decide_eq_true_eq, decide_eq_false_iff_not, Decidable.not_not] at h3f
  refine AW.skip ?_
  refine rs (ym ?_)
  refine Y1 (Yv.lenL rfl st_9 eV) ?_
  refine ya ?_
  refine AW.ret (retI (.tmp rfl .nil) ?_)
  first
   | exact ⟨rfl, none, 0, none, 0, by unfold wrF; rw [if_pos h3f]⟩
   | exact ⟨rfl, A1, c1, A87, c87, by unfold wrF; rw [if_neg hs0]⟩
 try replace h2f := odf h2f
 omega

end Go.Proofs.Ytlfklgganokgdaa.V

namespace Go.Proofs.Ytlfklgganokgdaa.V
open Go Go.RowKit
def putF (f : FileR) : List FileR → List FileR
 | [] => [f]
 | g :: r => if g.name = f.name then f :: r else g :: putF f r
def hasK (name : List UInt8) (l : List FileR) : Bool := (getK (.s name) (l.map fileKey)).isSome
def freeIx (o : List Desc) : Nat := o.findIdx fun d => decide (d.kind = 0)
def openR (name : List UInt8) (flags : Int) (ws : WS) : Int :=
 if 255 < name.length then -36 else if (flags ≠ 0 ∧ flags ≠ 577) ∨ 0 ≤ Lib.indexByte name 0 then -22 else if name = [] then -2 else if flags = 0 ∧ hasK name ws.files = false then -2 else if freeIx ws.opn < 19 then freeIx ws.opn else -24
def openS (name : List UInt8) (flags : Int) (A : Option Addr) (c : Nat) (tA : Option Addr) (tc : Nat) (ws : WS) : WS :=
 if openR name flags ws < 0 then ws else if flags = 577 then
  { ws with opn := ws.opn.set (freeIx ws.opn) ⟨5, name, 0⟩, files := putF ⟨name, [], A, c⟩ ws.files, trace := ws.trace ++ [⟨3, name, []⟩], tA := tA, tc := tc }
 else { ws with opn := ws.opn.set (freeIx ws.opn) ⟨4, name, 0⟩ }
theorem put_key (f : FileR) : ∀ (l : List FileR), putK (.s f.name) (.v (.slice f.A f.bytes.length f.c)) (l.map fileKey) = (putF f l).map fileKey
 | [] => rfl
 | g :: r => by
  rw [List.map_cons, putK, putF]
  by_cases h : g.name = f.name
  ·rw [if_pos h, if_pos (by simp [fileKey, h])]; rfl
  ·rw [if_neg h, if_neg (by simpa [fileKey] using h), put_key f r]; rfl
theorem put_rows (f : FileR) : ∀ (l : List FileR), ∃ S' : St, S'.Sublist (l.map fileRow ++ [fileRow f]) ∧ ((putF f l).map fileRow).Perm S'
 | [] => ⟨_, .refl _, .refl _⟩
 | g :: r => by
  rw [putF]
  split
  ·exact ⟨r.map fileRow ++ [fileRow f], by rw [List.map_cons, List.cons_append]; exact List.sublist_cons_self _ _, by
    rw [List.map_cons]
    exact (List.perm_append_singleton _ _).symm⟩
  ·obtain ⟨S', h1, h2⟩ := put_rows f r
   exact ⟨fileRow g :: S', by rw [List.map_cons, List.cons_append]; exact h1.cons_cons _, by rw [List.map_cons]; exact h2.cons _⟩
theorem freeIx_is {o : List Desc} {j : Nat} (h : j < o.length) (h0 : (o.getD j default).kind = 0) (hb : ∀ i, i < j → (o.getD i default).kind ≠ 0) : freeIx o = j := by
 unfold freeIx
 rw [List.findIdx_eq h]
 refine ⟨by rw [getD_eq' h] at h0; simpa using h0, fun i hi => ?_⟩
 have := hb i hi
 rw [getD_eq' (show i < o.length by omega)] at this
 simpa using this
theorem freeIx_none {o : List Desc} (hb : ∀ i, i < o.length → (o.getD i default).kind ≠ 0) : ¬ freeIx o < o.length := by
 unfold freeIx
 intro h
 have h2 := List.findIdx_getElem (w := h)
 have h1 := hb _ h
 rw [getD_eq' h] at h1
 simp only [decide_eq_true_eq] at h2
 exact h1 h2
section
variable {cx : Cx} {env : Env} {S : St} {Q : Exit → Env → St → Prop}
theorem AW.filePut {code : Code} {a b c : Ent} {l : List FileR} (f : FileR) (hS : S = (a :: b :: c :: l.map fileRow) ++ [fileRow f]) (h : AW cx code Q env (a :: b :: c :: (putF f l).map fileRow)) : AW cx code Q env S := by
 subst hS
 obtain ⟨S', h1, h2⟩ := put_rows f l
 exact AW.drop (S' := a :: b :: c :: S') (((h1.cons_cons c).cons_cons b).cons_cons a) (AW.perm (((h2.cons c).cons b).cons a) h)
end
theorem wst_desc {b m j : Nat} {ws : WS} (hj : j < ws.opn.length) (i q : Nat) (new : List T) (d' : Desc) (hin : i + q ≤ 3) (he : descCells d' = (descCells (ws.opn.getD j default)).take i ++ new ++ (descCells (ws.opn.getD j default)).drop (i + q)) :
    (WSt b m ws).set 0 (.box b 70 ((wCells m ws.stdin ws.opn ws.tA ws.trace.length ws.tc).take (2 + j * 3 + i) ++ new ++ (wCells m ws.stdin ws.opn ws.tA ws.trace.length ws.tc).drop (2 + j * 3 + i + q))) = WSt b m { ws with opn := ws.opn.set j d' } := by
 rw [set_desc hj i q new d' hin he]; rfl
theorem wst_event {b m : Nat} {ws : WS} (ho : ws.opn.length = 19) (e : Evt) (A : Option Addr) (c : Nat) : WSt b m { ws with trace := ws.trace ++ [e], tA := A, tc := c } =
    .box b 70 ((wCells m ws.stdin ws.opn ws.tA ws.trace.length ws.tc).take 59 ++ [.v (.slice A (ws.trace.length + 1) c)] ++ (wCells m ws.stdin ws.opn ws.tA ws.trace.length ws.tc).drop 60) :: .map m (ws.files.map fileKey) :: .row A (ws.trace.length + 1) c 90 3 (ws.trace.flatMap evCells ++ evCells e) :: ws.files.map fileRow := by
 simp only [WSt, List.length_append, List.length_cons, List.length_nil, List.flatMap_append, List.flatMap_cons, List.flatMap_nil, List.append_nil, Nat.zero_add]
 rw [set_trace ho]
end Go.Proofs.Ytlfklgganokgdaa.V

namespace Go.Proofs.Ytlfklgganokgdaa.V
open Go Go.RowKit

set_option maxHeartbeats 2000000 in
theorem SysOpen17 (b m : Nat) (ws : WS) (name : List UInt8) (flags : Int) (n : Nat) (hw : WB n ws) (hn : n ≤ 549755813888) :
    ACalls Try.prog 77 [wp b, sv name, .v (.int .i64 flags)] (WSt b m ws) (fun t S => t = .v (.int .i64 (openR name flags ws)) ∧ ∃ A c tA tc, S = WSt b m (openS name flags A c tA tc ws)) := by
 obtain ⟨ho, htr, htx, hfl, hpl, hsi⟩ := hw
 refine ACalls.intro Try.func77 rfl Try.ntmps77 nB rfl fun X w0 => ?_
 refine ra ?_
 refine AW.seq ?_
 refine AW.block ?_
 refine rs (ym ?_)
 refine Y1 (Yv.eqlNilP rfl pn_34 eV) ?_
 refine ya ?_
 refine AW.cond rfl (fun h0t => ?_) (fun h0f => ?_)
 ·cases h0t
 refine rs (ym ?_)
 refine Y1 (Yv.lenL rfl st_9 eV) ?_
 refine Y1 (Yv.gtr rfl eV eV) ?_
 refine ya ?_
 refine AW.cond rfl (fun h1t => ?_) (fun h1f => ?_)
 ·try replace h1t := odt h1t
  refine ra ?_
  refine AW.ret (retI (.tmp rfl .nil) ?_)
  have e : openR name flags ws = -36 := by
   unfold openR
   rw [if_pos (by omega)]
  exact ⟨by rw [e]; rfl, none, 0, none, 0, by unfold openS; rw [if_pos (by omega)]⟩
 try replace h1f := odf h1f
 refine rs (ym ?_)
 refine Y1 (Yv.neq rfl eV eV) ?_
 refine ym ?_
 refine gT (Yv.move rfl eV) ?_
 refine gT (Yv.neq rfl (Eg rfl rfl id) eV) ?_
 refine Y1 (Yv.pickAnd rfl eV (Eg rfl rfl id)) ?_
 refine ym ?_
 refine gF (Yv.move rfl eV) ?_
 refine AWL.callPgF rfl rfl rfl rfl (B rfl) rfl ce_44 (E rfl rfl) (evsC (Eg rfl rfl id) (evsC (E rfl rfl) evs0)) (fun hg => indexByte32 name 0) (fun t S h => h) ?_
 refine gF (Yv.geq rfl (Eg rfl rfl id) eV) ?_
 refine Y1 (Yv.pickOr (t := .const (.bool true)) rfl eV (Eg rfl rfl id)) ?_
 refine ya ?_
 refine AW.cond rfl (fun h2t => ?_) (fun h2f => ?_)
 ·simp only [Bool.or_eq_true, Bool.and_eq_true, Bool.or_eq_false_iff, Bool.and_eq_false_iff, Bool.not_eq_true', Bool.not_eq_false', decide_eq_true_eq, decide_eq_false_iff_not, Decidable.not_not] at h2t
  refine ra ?_
  refine AW.ret (retI (.tmp rfl .nil) ?_)
  have e : openR name flags ws = -22 := by
   unfold openR
   rw [if_neg (by omega), if_pos (by omega)]
  exact ⟨by rw [e]; rfl, none, 0, none, 0, by unfold openS; rw [if_pos (by omega)]⟩
 simp only [Bool.or_eq_true, Bool.and_eq_true, Bool.or_eq_false_iff, Bool.and_eq_false_iff, Bool.not_eq_true', Bool.not_eq_false', decide_eq_true_eq, decide_eq_false_iff_not, Decidable.not_not] at h2f
 refine rs (ym ?_)
 refine Y1 (Yv.eqlL rfl eV eV) ?_
 refine ya ?_
 refine AW.cond rfl (fun h3t => ?_) (fun h3f => ?_)
 ·try replace h3t := odt h3t
  refine ra ?_
  refine AW.ret (retI (.tmp rfl .nil) ?_)
  have e : openR name flags ws = -2 := by
   unfold openR
   rw [if_neg (by omega), if_neg (by omega), if_pos h3t]
  exact ⟨by rw [e]; rfl, none, 0, none, 0, by unfold openS; rw [if_pos (by omega)]⟩
 try replace h3f := odf h3f
 refine AW.skip ?_
 refine AW.seq ?_
 refine rs (ym ?_)
 refine Y1 (Yv.nilChk rfl eV) ?_
 refine yf fo_70_0 ?_
 refine yl ag_64 0 ?_
 refine ym ?_
 refine Y1 (Yv.lookup2 (k := .s _) (i := 1) rfl mp_64 rfl eV eV rfl (files_good _)) ?_
 refine ym ?_
 refine Y1 (Yv.extract rfl eV rfl) ?_
 refine Y1 (Yv.extract rfl eV rfl) ?_
 refine Y1 (Yv.assign rfl eV) ?_
 refine ya ?_
 refine rs (ym ?_)
 refine Y1 (Yv.eql rfl eV eV) ?_
 refine ym ?_
 refine gT (Yv.move rfl eV) ?_
 refine gT (Yv.not rfl (Eg rfl rfl id)) ?_
 refine Y1 (Yv.pickAnd rfl eV (Eg rfl rfl id)) (nl ?_)
 refine AW.cond rfl (fun h4t => ?_) (fun h4f => ?_)
 ·simp only [Bool.or_eq_true, Bool.and_eq_true, Bool.or_eq_false_iff, Bool.and_eq_false_iff, Bool.not_eq_true', Bool.not_eq_false', decide_eq_true_eq, decide_eq_false_iff_not, Decidable.not_not] at h4t
  refine ra ?_
  refine AW.ret (retI (.tmp rfl .nil) ?_)
  have e : openR name flags ws = -2 := by
   unfold openR
   rw [if_neg (by omega), if_neg (by omega), if_neg h3f, if_pos ⟨h4t.1, by unfold hasK; rw [h4t.2]⟩]
  exact ⟨by rw [e]; rfl, none, 0, none, 0, by unfold openS; rw [if_pos (by omega)]⟩
 simp only [Bool.or_eq_true, Bool.and_eq_true, Bool.or_eq_false_iff, Bool.and_eq_false_iff, Bool.not_eq_true', Bool.not_eq_false', decide_eq_true_eq, decide_eq_false_iff_not, Decidable.not_not] at h4f
 have hR : openR name flags ws = if freeIx ws.opn < 19 then (freeIx ws.opn : Int) else -24 := by
  unfold openR
  rw [if_neg (by omega), if_neg (by omega), if_neg h3f, if_neg (fun q => h4f.elim (fun h => h q.1) (fun h => by have := q.2; unfold hasK at this; rw [h] at this; cases this))]
 refine AW.skip ?_
 refine AW.seq ?_
 refine rs (ym (nl ?_))
 refine AW.block ?_
 refine AW.loop (fun (j : Nat) => [(0, true, wp b), (1, true, sv name), (2, true, .v (.int .i64 flags)), (47, true, .v (.int .i64 (j : Int)))]) (fun (j : Nat) => (WSt b m ws)) (fun (j : Nat) => j ≤ 19 ∧ ∀ i, i < j → (ws.opn.getD i default).kind ≠ 0) (fun (j : Nat) => 19 - j) 0 ?_ ?_ ?_ ?_
 ·exact ⟨Nat.zero_le _, fun i hi => absurd hi (Nat.not_lt_zero i)⟩
 ·exact (su (su (su (su sn))))
 ·rfl
 intro j hinv
 obtain ⟨hj, hbef⟩ := hinv
 refine rs (Y1 (Yv.lss rfl eV eV) (nl ?_))
 refine AW.seq ?_
 refine AW.cond rfl (fun h5t => ?_) (fun h5f => ?_)
 ·try replace h5t := odt h5t
  refine AW.skip ?_
  refine AW.seq ?_
  refine AW.block ?_
  refine rs (ym ?_)
  refine ya ?_
  refine AW.seq ?_
  refine rs (ym ?_)
  refine ym ?_
  refine Y1 (Yv.nilChk rfl eV) ?_
  refine yf fo_70_2 ?_
  refine Y1 (Yv.indexArr rfl ar_68 eV eV (fun hg => ⟨rfl, by omega⟩)) ?_
  refine yf fo_67_0 ?_
  refine Y1 (Yv.loadBox rfl ag_3 (i := 0) rfl eV (kind_at (by omega))) ?_
  refine Y1 (Yv.neq rfl eV eV) (nl ?_)
  refine AW.cond rfl (fun h6t => ?_) (fun h6f => ?_)
  ·refine AW.exit ?_
   refine AW.region ?_
   refine Y1 (Yv.addN_i64 rfl eV eV (fun hg => by omega)) ?_
   refine ym (nl ?_)
   refine ⟨j + 1, ⟨by omega, fun i hi => ?_⟩, by omega, (su (su (su (Sub.cons rfl (by simp) Sub.nil)))), rfl⟩
   rcases Nat.lt_or_ge i j with h | h
   ·exact hbef i h
   obtain rfl : i = j := by omega
   simpa using h6t
  have hk0 : (ws.opn.getD j default).kind = 0 := by simpa using h6f
  have hix : freeIx ws.opn = j := freeIx_is (by omega) hk0 hbef
  rw [hix, if_pos (by omega)] at hR
  refine AW.skip ?_
  refine rs (ym ?_)
  refine AWL.callP rfl rfl (B rfl) rfl ce_27 (E rfl rfl) (evsC (E rfl rfl) evs0) (clone26 name (by omega)) (fun t S h => h) ?_
  refine ya ?_
  refine rs (ym ?_)
  refine ym ?_
  refine ym ?_
  refine Y1 (Yv.buildS rfl sh_67 (evpC eV (evpC eV evp0)) (fun _ => rfl)) ?_
  refine Y1 (Yv.nilChk rfl eV) ?_
  refine yf fo_70_2 ?_
  refine Y1 (Yv.indexArr rfl ar_68 eV eV (fun hg => ⟨rfl, by omega⟩)) ?_
  refine AWL.storeBox (i := 0) rfl rfl rfl ag_67 rfl (E rfl rfl) (E rfl rfl) rfl rfl (by first | (rw [wCells_len, ho]; omega) | (simp only [wCells_len, List.length_set, ho]; omega)) (nl ?_)
  refine AW.eqS (wst_desc (b := b) (m := m) (ws := ws) (j := j) (by omega) 0 3 (descCells ⟨4, name, 0⟩) ⟨4, name, 0⟩ (by decide) rfl) ?_
  refine AW.seq ?_
  refine rs (ym ?_)
  refine Y1 (Yv.eql rfl eV eV) (nl ?_)
  refine AW.cond rfl (fun h7t => ?_) (fun h7f => ?_)
  ·try replace h7t := odt h7t
   refine rs (ym ?_)
   refine ym ?_
   refine Y1 (Yv.nilChk rfl eV) ?_
   refine yf fo_70_2 ?_
   refine Y1 (Yv.indexArr rfl ar_68 eV eV (fun hg => ⟨rfl, by omega⟩)) ?_
   refine yf fo_67_0 ?_
   refine AWL.storeBox (i := 0) rfl rfl rfl ag_3 rfl (E rfl rfl) (E rfl rfl) rfl rfl (by first | (rw [wCells_len, ho]; omega) | (simp only [wCells_len, List.length_set, ho]; omega)) (nl ?_)
   refine AW.eqS (S' := WSt b m { ws with opn := ws.opn.set j ⟨5, name, 0⟩ }) ?_ ?_
   ·have e := wst_desc (b := b) (m := m) (ws := { ws with opn := ws.opn.set j ⟨4, name, 0⟩ }) (j := j) (by rw [List.length_set]; omega) 0 1 [.v (.int .i64 5)] ⟨5, name, 0⟩ (by decide) (by rw [getD_set (by omega)]; rfl)
    simp only [List.set_set] at e
    rw [← e]; rfl
   refine rs (ym ?_)
   refine Y1 (Yv.nilChk rfl eV) ?_
   refine yf fo_70_0 ?_
   refine yl ag_64 0 ?_
   refine ym ?_
   refine AWL.buildSliceRow rfl rfl (B rfl) rfl el_23 (B rfl) rfl evs0 nB rfl rfl (fun A80 => ?_)
   refine AWL.mapUpd (k := .s _) (i := 1) rfl rfl (.inl rfl) mp_64 rfl (E rfl rfl) (E rfl rfl) (E rfl rfl) rfl rfl (files_good _) (nl ?_)
   refine AW.filePut (f := ⟨name, [], A80, 0⟩) (l := ws.files) (a := .box b 70 (wCells m ws.stdin (ws.opn.set j ⟨5, name, 0⟩) ws.tA ws.trace.length ws.tc)) (b := .map m ((putF ⟨name, [], A80, 0⟩ ws.files).map fileKey)) (c := .row ws.tA ws.trace.length ws.tc 90 3 (ws.trace.flatMap evCells)) (by
    have e := put_key ⟨name, [], A80, 0⟩ ws.files
    rw [← e]; rfl) ?_
   refine AW.eqS (S' := WSt b m { ws with opn := ws.opn.set j ⟨5, name, 0⟩, files := putF ⟨name, [], A80, 0⟩ ws.files }) rfl ?_
   refine AW.region ?_
   refine ym ?_
   refine ym ?_
   refine Y1 (Yv.nilChk rfl eV) ?_
   refine yf fo_70_3 ?_
   refine Y1 (Yv.loadBox rfl ag_44 (i := 0) rfl eV (trace_at (by first | exact ho | (rw [List.length_set]; exact ho)))) ?_
   refine ym ?_
   refine Y1 (Yv.buildS rfl sh_90 (evpC eV (evpC eV evp0)) (fun _ => rfl)) ?_
   refine AWL.buildSliceE rfl rfl (B rfl) rfl el_44 (B rfl) rfl (evsC (E rfl rfl) evs0) nB rfl rfl ?_
   refine AWL.appendRow (i := 2) rfl rfl (B rfl) rfl el_44 (B rfl) rfl (E rfl rfl) (SrcT.sl so_44 (B rfl) (E rfl rfl) (m := 1) rfl) (by show ws.trace.length + 1 ≤ maxLen; unfold maxLen; omega) (by show (ws.trace.length + 1) * _ ≤ _; omega) (fun A89 c89 => ?_)
   refine Y1 (Yv.nilChk rfl eV) ?_
   refine yf fo_70_3 ?_
   refine AWL.storeBox (i := 0) rfl rfl rfl ag_44 rfl (E rfl rfl) (E rfl rfl) rfl rfl (by first | (rw [wCells_len, ho]; omega) | (simp only [wCells_len, List.length_set, ho]; omega)) (nl ?_)
   refine rs (ym ?_)
   refine ya ?_
   refine AW.ret (retI (.tmp rfl .nil) ?_)
   refine ⟨by rw [hR]; rfl, A80, 0, A89, c89, ?_⟩
   unfold openS
   rw [if_neg (by omega), if_pos (by omega), hix]
   have e := wst_event (b := b) (m := m) (ws := { ws with opn := ws.opn.set j ⟨5, name, 0⟩, files := putF ⟨name, [], A80, 0⟩ ws.files }) (by simpa using ho) ⟨3, name, []⟩ A89 c89
   exact e.symm
  try replace h7f := odf h7f
  refine AW.skip ?_
  refine rs (ym ?_)
  refine ya ?_
  refine AW.ret (retI (.tmp rfl .nil) ?_)
  refine ⟨by rw [hR]; rfl, none, 0, none, 0, ?_⟩
  unfold openS
  rw [if_neg (by omega), if_neg (by omega), hix]
 try replace h5f := odf h5f
 refine AW.exit ?_
 refine ra ?_
 refine AW.ret (retI (.tmp rfl .nil) ?_)
 have hnf : ¬ freeIx ws.opn < 19 := by
  rw [← ho]
  exact freeIx_none (fun i hi => hbef i (by omega))
 rw [if_neg hnf] at hR
 exact ⟨by rw [hR]; rfl, none, 0, none, 0, by unfold openS; rw [if_pos (by omega)]⟩

end Go.Proofs.Ytlfklgganokgdaa.V

namespace Go.Proofs.Ytlfklgganokgdaa.V
open Go Go.RowKit
structure OpenOk (name : List UInt8) (flags : Int) (ws : WS) : Prop where
 len : name.length ≤ 255
 ix : freeIx ws.opn < 19
 is : openR name flags ws = (freeIx ws.opn : Int)
 ne : name ≠ []
 idx : Lib.indexByte name 0 < 0
 has : flags = 0 → hasK name ws.files = true
end Go.Proofs.Ytlfklgganokgdaa.V

namespace Go.Proofs.Ytlfklgganokgdaa.V
open Go Go.RowKit
structure Wrote (j q : Nat) (s : List UInt8) (ws ws' : WS) : Prop where
 stdin : ws'.stdin = ws.stdin
 opn : ws'.opn = ws.opn.set j { ws.opn.getD j default with place := (ws.opn.getD j default).place + s.length }
 trace : ws'.trace = sayF 3 (ws.opn.getD j default).name s ws.trace
 names : ws'.files.map (·.name) = ws.files.map (·.name)
 bytes : (ws.opn.getD j default).place = (ws.files.getD q default).bytes.length → (ws'.files.getD q default).bytes = (ws.files.getD q default).bytes ++ s
 others : ∀ i, i ≠ q → (ws'.files.getD i default).bytes = (ws.files.getD i default).bytes
end Go.Proofs.Ytlfklgganokgdaa.V

namespace Go.Proofs.Ytlfklgganokgdaa.V
open Go Go.RowKit
def fCells (x : List UInt8 × List UInt8) : List T := [sv x.1, sv x.2]
def worldT (s : List UInt8) (l : List (List UInt8 × List UInt8)) : T := .agg [sv s, .sl 2 (l.flatMap fCells)]
theorem fk (x : List UInt8 × List UInt8) : (fCells x).length = 2 := rfl
theorem len_fc {l : List (List UInt8 × List UInt8)} : (l.flatMap fCells).length = l.length * 2 := len_flat fk l
theorem fc_get {l : List (List UInt8 × List UInt8)} {j : Nat} (h : j < l.length) : ((l.flatMap fCells).drop (j * 2)).take 2 = fCells (l.getD j default) ∧ (fCells (l.getD j default)).length = 2 := by
 refine ⟨?_, rfl⟩
 rw [drop_flat fk, List.drop_eq_getElem_cons h, List.flatMap_cons, getD_eq' h]
 rfl
def fitsB (n : List UInt8) : Bool := !decide (n = []) && decide ((n.length : Int) ≤ 255) && decide (Lib.indexByte n 0 < 0)
def stepN (acc : List (List UInt8 × List UInt8)) (x : List UInt8 × List UInt8) : List (List UInt8 × List UInt8) := if !(acc.any fun y => decide (y.1 = x.1)) && fitsB x.1 then acc ++ [x] else acc
def nF (l : List (List UInt8 × List UInt8)) : List (List UInt8 × List UInt8) := l.foldl stepN []
theorem nF_succ {l : List (List UInt8 × List UInt8)} {j : Nat} (h : j < l.length) : nF (l.take (j + 1)) = stepN (nF (l.take j)) (l.getD j default) := by
 rw [List.take_succ_eq_append_getElem h, nF, List.foldl_append, getD_eq' h]; rfl
def nb (f : FileR) : List UInt8 × List UInt8 := (f.name, f.bytes)
theorem hasK_any (name : List UInt8) : ∀ (l : List FileR), hasK name l = (l.map nb).any fun y => decide (y.1 = name)
 | [] => rfl
 | f :: r => by
  have ih := hasK_any name r
  unfold hasK at ih ⊢
  rw [List.map_cons, getK, List.map_cons, List.any_cons]
  by_cases h : f.name = name
  ·rw [if_pos (by simp [fileKey, h])]; simp [nb, h]
  ·rw [if_neg (by simpa [fileKey] using h), ih]; simp [nb, h]
def zd : Desc := ⟨0, [], 0⟩
def opnZ : List Desc := [zd, zd, zd, zd, zd, zd, zd, zd, zd, zd, zd, zd, zd, zd, zd, zd, zd, zd, zd]
def opn0 : List Desc := [⟨1, [], 0⟩, ⟨2, [], 0⟩, ⟨3, [], 0⟩, zd, zd, zd, zd, zd, zd, zd, zd, zd, zd, zd, zd, zd, zd, zd, zd]
theorem perm_new {a b r : Ent} {l : St} : (b :: a :: r :: l).Perm (a :: b :: (l ++ [r])) :=
 (List.Perm.swap a b (r :: l)).trans (((List.perm_append_singleton r l).symm.cons b).cons a)
theorem nF_uniq : ∀ (l : List (List UInt8 × List UInt8)) (acc : List (List UInt8 × List UInt8)), (acc.map (·.1)).Nodup → ((l.foldl stepN acc).map (·.1)).Nodup
 | [], acc, h => h
 | x :: r, acc, h => by
  rw [List.foldl_cons]
  refine nF_uniq r _ ?_
  unfold stepN
  split
  ·rename_i hc
   rw [List.map_append, List.nodup_append]
   refine ⟨h, by simp, fun a ha b hb => ?_⟩
   simp only [List.map_cons, List.map_nil, List.mem_singleton] at hb
   subst hb
   rintro rfl
   simp only [Bool.and_eq_true, Bool.not_eq_true', List.any_eq_false, decide_eq_true_eq] at hc
   obtain ⟨y, hy, he⟩ := List.mem_map.1 ha
   exact hc.1 y hy he
  ·exact h
end Go.Proofs.Ytlfklgganokgdaa.V

namespace Go.Proofs.Ytlfklgganokgdaa.V
open Go Go.RowKit

set_option maxHeartbeats 1000000 in
theorem New9 (stdin : List UInt8) (files : List (List UInt8 × List UInt8)) (hs : stdin.length ≤ 140737488355000) (hl : files.length ≤ 1099511627776) (hd : ∀ x ∈ files, x.2.length ≤ 1099511627776) :
    ACalls Try.prog 12 [worldT stdin files] [] (fun t S => ∃ b m fl, t = wp b ∧ S = WSt b m ⟨fl, stdin, opn0, [], none, 0⟩ ∧ fl.map nb = nF files) := by
 refine ACalls.intro Try.func12 rfl Try.ntmps12 nB rfl fun X w0 => ?_
 refine rs ?_
 refine AWL.boxOp rfl rfl (B rfl) rfl (E rfl rfl) rfl (fun b1 => ?_)
 refine ya ?_
 refine rs ?_
 refine AWL.makeMapOp rfl rfl (B rfl) rfl (fun b8 => ?_)
 refine yf fo_33_0 ?_
 refine yl ag_9 0 ?_
 refine AWL.callP rfl rfl (B rfl) rfl ce_27 (E rfl rfl) (evsC (E rfl rfl) evs0) (clone26 stdin hs) (fun t S h => h) ?_
 refine Y1 (Yv.buildS rfl sh_70 (evpC eV (evpC eV evp0)) (fun _ => rfl)) ?_
 refine AWL.boxOp rfl rfl (B rfl) rfl (E rfl rfl) rfl (fun b13 => ?_)
 refine ya ?_
 refine AW.eqS (S' := [.box b1 33 [sv stdin, .sl 2 (files.flatMap fCells)], .map b8 [], .box b13 70 (wCells b8 stdin opnZ none 0 0)]) rfl ?_
 refine AW.seq ?_
 refine rs (yf fo_33_1 ?_)
 refine yl ag_31 0 ?_
 refine Y1 (Yv.lenSl rfl so_31 (B rfl) eV len_fc) ?_
 refine ym (nl ?_)
 refine AW.block ?_
 refine AW.loop2 (fun (j : Nat) (fl : List FileR) => [(1, true, pv b1), (3, true, wp b13), (15, true, .sl 2 (files.flatMap fCells)), (16, true, .v (.int .i64 (files.length : Int))), (17, true, .v (.int .i64 (j : Int)))]) (fun (j : Nat) (fl : List FileR) => (.box b1 33 [sv stdin, .sl 2 (files.flatMap fCells)] :: .map b8 (fl.map fileKey) :: .box b13 70 (wCells b8 stdin opnZ none 0 0) :: fl.map fileRow)) (fun (j : Nat) (fl : List FileR) => j ≤ files.length ∧ fl.map nb = nF (files.take j)) (fun (j : Nat) (fl : List FileR) => files.length - j) 0 ([]) ?_ ?_ ?_ ?_
 ·exact ⟨Nat.zero_le _, rfl⟩
 ·exact (su (su (su (su (su sn)))))
 ·rfl
 intro j fl hinv
 obtain ⟨hj, hfl⟩ := hinv
 refine rs (Y1 (Yv.lss rfl eV eV) (nl ?_))
 refine AW.seq ?_
 refine AW.cond rfl (fun h0t => ?_) (fun h0f => ?_)
 ·try replace h0t := odt h0t
  have hsu := nF_succ (l := files) (j := j) (by omega)
  refine AW.skip ?_
  refine AW.seq ?_
  refine AW.block ?_
  refine rs (Y1 (Yv.indexSl rfl ss_31 (B rfl) eV eV (fun hg => ⟨rfl, (by first | omega | (simp only [len_fc, len_ev]; omega))⟩)) ?_)
  refine Y1 (Yv.loadRpA rfl ag_72 eV (fun hg => fc_get (by omega))) ?_
  refine AWL.allocOp rfl rfl (B rfl) rfl zc_72 (fun b5 => ?_)
  refine AWL.perm (S' := .box b5 72 [sv [], sv []] :: .box b1 33 [sv stdin, .sl 2 (files.flatMap fCells)] :: .map b8 (fl.map fileKey) :: .box b13 70 (wCells b8 stdin opnZ none 0 0) :: fl.map fileRow) (List.perm_append_singleton _ _).symm ?_
  refine AWL.storeBox (i := 0) rfl rfl rfl ag_72 rfl (E rfl rfl) (E rfl rfl) rfl rfl nB (nl ?_)
  refine AW.rseqQ rfl (by kernel_rfl) ?_
  refine qm ?_
  refine Q1 (Yv.nilChk rfl eV) ?_
  refine qf fo_70_0 ?_
  refine ql ag_64 3 ?_
  refine qf fo_72_0 ?_
  refine ql ag_9 0 ?_
  refine Q1 (Yv.lookup2 (k := .s _) (i := 2) rfl mp_64 rfl eV eV rfl (files_good _)) ?_
  refine qm ?_
  refine Q1 (Yv.extract rfl eV rfl) ?_
  refine Q1 (Yv.extract rfl eV rfl) ?_
  refine Q1 (Yv.assign rfl eV) ?_
  refine Q1 (Yv.assign rfl eV) ?_
  refine AWQ.nil ?_
  refine rs (ym ?_)
  refine Y1 (Yv.not rfl eV) ?_
  refine ym ?_
  refine gT (Yv.fieldBox rfl fo_72_0 eV) ?_
  refine gT (Yv.loadBox rfl ag_9 (i := 0) rfl (Eg rfl rfl id) rfl) ?_
  refine AWL.callPgT rfl rfl rfl rfl (B rfl) rfl ce_28 (E rfl rfl) (evsC (Eg rfl rfl id) evs0) (fun hg => fits27 (files.getD j default).1) (fun t S h => h) ?_
  refine Y1 (Yv.pickAnd rfl eV (Eg rfl rfl id)) (nl ?_)
  refine AW.cond rfl (fun h1t => ?_) (fun h1f => ?_)
  ·have hadd : (!((nF (files.take j)).any fun y => decide (y.1 = (files.getD j default).1)) && fitsB (files.getD j default).1) = true := by
    rw [← hfl, ← hasK_any]; exact h1t
   have hnone : ∀ g ∈ fl, g.name ≠ (files.getD j default).1 := fun g hg he => by
    simp only [Bool.and_eq_true, Bool.not_eq_true', ← hfl, List.any_eq_false, decide_eq_true_eq] at hadd
    exact hadd.1 (nb g) (List.mem_map.2 ⟨g, hg, rfl⟩) he
   refine AW.regionP rfl ?_
   refine T1 (i := 0) rfl (freeMove rfl (E rfl rfl)) ?_
   refine T1 (i := 1) rfl (freeNil rfl (E rfl rfl)) ?_
   refine T1 (i := 2) rfl (freeField rfl fo_70_0 (E rfl rfl)) ?_
   refine T1 (i := 4) rfl (freeField rfl fo_72_0 (E rfl rfl)) ?_
   refine T1 (i := 6) rfl (freeField rfl fo_72_1 (E rfl rfl)) ?_
   refine AWP.three (i := 3) (j := 5) (k := 7) (by kernel_rfl) rfl rfl rfl ?_ ?_ ?_
   ·refine yl ag_64 3 (nl ?_)
    refine AWP.two (i := 5) (j := 7) (by kernel_rfl) rfl rfl ?_ ?_
    ·refine yl ag_9 0 (nl ?_)
     refine p1 7 ?_
     refine yl ag_9 0 (nl ?_)
     refine p1 8 ?_
     refine AWL.strBytesRow rfl rfl (B rfl) rfl st_9 so_23 kd_5 (E rfl rfl) (by show _ ≤ _; have := hd _ (getD_mem' (l := files) (j := j) (by omega)); unfold maxLen; exact Nat.le_trans this (by decide)) (fun A46 c46 => ?_)
     refine nl ?_
     refine p1 9 ?_
     refine AWL.mapUpd (k := .s _) (i := 2) rfl rfl (.inl rfl) mp_64 rfl (E rfl rfl) (E rfl rfl) (E rfl rfl) rfl rfl (files_good _) (nl ?_)
     refine AWP.done (by kernel_rfl) ?_
     refine AW.dropAt 0 ?_
     refine AW.region ?_
     refine Y1 (Yv.addN_i64 rfl eV eV (fun hg => by omega)) ?_
     refine ym (nl ?_)
     have hkey := put_new (l := fl) ⟨(files.getD j default).1, (files.getD j default).2, A46, c46⟩ hnone
     refine ⟨j + 1, fl ++ [⟨(files.getD j default).1, (files.getD j default).2, A46, c46⟩], ⟨by omega, ?_⟩, by omega, (su (su (su (su (Sub.cons rfl (by simp) Sub.nil))))), ?_⟩
     ·rw [hsu, stepN, if_pos hadd, ← hfl, List.map_append]; rfl
     rw [← hkey, List.map_append]; rfl
    refine yl ag_9 0 (nl ?_)
    refine AWP.two (i := 5) (j := 8) (by kernel_rfl) rfl rfl ?_ ?_
    ·refine yl ag_9 0 (nl ?_)
     refine p1 8 ?_
     refine AWL.strBytesRow rfl rfl (B rfl) rfl st_9 so_23 kd_5 (E rfl rfl) (by show _ ≤ _; have := hd _ (getD_mem' (l := files) (j := j) (by omega)); unfold maxLen; exact Nat.le_trans this (by decide)) (fun A46 c46 => ?_)
     refine nl ?_
     refine p1 9 ?_
     refine AWL.mapUpd (k := .s _) (i := 2) rfl rfl (.inl rfl) mp_64 rfl (E rfl rfl) (E rfl rfl) (E rfl rfl) rfl rfl (files_good _) (nl ?_)
     refine AWP.done (by kernel_rfl) ?_
     refine AW.dropAt 0 ?_
     refine AW.region ?_
     refine Y1 (Yv.addN_i64 rfl eV eV (fun hg => by omega)) ?_
     refine ym (nl ?_)
     have hkey := put_new (l := fl) ⟨(files.getD j default).1, (files.getD j default).2, A46, c46⟩ hnone
     refine ⟨j + 1, fl ++ [⟨(files.getD j default).1, (files.getD j default).2, A46, c46⟩], ⟨by omega, ?_⟩, by omega, (su (su (su (su (Sub.cons rfl (by simp) Sub.nil))))), ?_⟩
     ·rw [hsu, stepN, if_pos hadd, ← hfl, List.map_append]; rfl
     rw [← hkey, List.map_append]; rfl
    refine AWL.strBytesRow rfl rfl (B rfl) rfl st_9 so_23 kd_5 (E rfl rfl) (by show _ ≤ _; have := hd _ (getD_mem' (l := files) (j := j) (by omega)); unfold maxLen; exact Nat.le_trans this (by decide)) (fun A46 c46 => ?_)
    refine nl ?_
    refine p1 5 ?_
    refine yl ag_9 0 (nl ?_)
    refine p1 9 ?_
    refine AWL.mapUpd (k := .s _) (i := 2) rfl rfl (.inl rfl) mp_64 rfl (E rfl rfl) (E rfl rfl) (E rfl rfl) rfl rfl (files_good _) (nl ?_)
    refine AWP.done (by kernel_rfl) ?_
    refine AW.dropAt 0 ?_
    refine AW.region ?_
    refine Y1 (Yv.addN_i64 rfl eV eV (fun hg => by omega)) ?_
    refine ym (nl ?_)
    have hkey := put_new (l := fl) ⟨(files.getD j default).1, (files.getD j default).2, A46, c46⟩ hnone
    refine ⟨j + 1, fl ++ [⟨(files.getD j default).1, (files.getD j default).2, A46, c46⟩], ⟨by omega, ?_⟩, by omega, (su (su (su (su (Sub.cons rfl (by simp) Sub.nil))))), ?_⟩
    ·rw [hsu, stepN, if_pos hadd, ← hfl, List.map_append]; rfl
    rw [← hkey, List.map_append]; rfl
   ·refine yl ag_9 0 (nl ?_)
    refine AWP.two (i := 3) (j := 7) (by kernel_rfl) rfl rfl ?_ ?_
    ·refine yl ag_64 3 (nl ?_)
     refine p1 7 ?_
     refine yl ag_9 0 (nl ?_)
     refine p1 8 ?_
     refine AWL.strBytesRow rfl rfl (B rfl) rfl st_9 so_23 kd_5 (E rfl rfl) (by show _ ≤ _; have := hd _ (getD_mem' (l := files) (j := j) (by omega)); unfold maxLen; exact Nat.le_trans this (by decide)) (fun A46 c46 => ?_)
     refine nl ?_
     refine p1 9 ?_
     refine AWL.mapUpd (k := .s _) (i := 2) rfl rfl (.inl rfl) mp_64 rfl (E rfl rfl) (E rfl rfl) (E rfl rfl) rfl rfl (files_good _) (nl ?_)
     refine AWP.done (by kernel_rfl) ?_
     refine AW.dropAt 0 ?_
     refine AW.region ?_
     refine Y1 (Yv.addN_i64 rfl eV eV (fun hg => by omega)) ?_
     refine ym (nl ?_)
     have hkey := put_new (l := fl) ⟨(files.getD j default).1, (files.getD j default).2, A46, c46⟩ hnone
     refine ⟨j + 1, fl ++ [⟨(files.getD j default).1, (files.getD j default).2, A46, c46⟩], ⟨by omega, ?_⟩, by omega, (su (su (su (su (Sub.cons rfl (by simp) Sub.nil))))), ?_⟩
     ·rw [hsu, stepN, if_pos hadd, ← hfl, List.map_append]; rfl
     rw [← hkey, List.map_append]; rfl
    refine yl ag_9 0 (nl ?_)
    refine AWP.two (i := 3) (j := 8) (by kernel_rfl) rfl rfl ?_ ?_
    ·refine yl ag_64 3 (nl ?_)
     refine p1 8 ?_
     refine AWL.strBytesRow rfl rfl (B rfl) rfl st_9 so_23 kd_5 (E rfl rfl) (by show _ ≤ _; have := hd _ (getD_mem' (l := files) (j := j) (by omega)); unfold maxLen; exact Nat.le_trans this (by decide)) (fun A46 c46 => ?_)
     refine nl ?_
     refine p1 9 ?_
     refine AWL.mapUpd (k := .s _) (i := 2) rfl rfl (.inl rfl) mp_64 rfl (E rfl rfl) (E rfl rfl) (E rfl rfl) rfl rfl (files_good _) (nl ?_)
     refine AWP.done (by kernel_rfl) ?_
     refine AW.dropAt 0 ?_
     refine AW.region ?_
     refine Y1 (Yv.addN_i64 rfl eV eV (fun hg => by omega)) ?_
     refine ym (nl ?_)
     have hkey := put_new (l := fl) ⟨(files.getD j default).1, (files.getD j default).2, A46, c46⟩ hnone
     refine ⟨j + 1, fl ++ [⟨(files.getD j default).1, (files.getD j default).2, A46, c46⟩], ⟨by omega, ?_⟩, by omega, (su (su (su (su (Sub.cons rfl (by simp) Sub.nil))))), ?_⟩
     ·rw [hsu, stepN, if_pos hadd, ← hfl, List.map_append]; rfl
     rw [← hkey, List.map_append]; rfl
    refine AWL.strBytesRow rfl rfl (B rfl) rfl st_9 so_23 kd_5 (E rfl rfl) (by show _ ≤ _; have := hd _ (getD_mem' (l := files) (j := j) (by omega)); unfold maxLen; exact Nat.le_trans this (by decide)) (fun A46 c46 => ?_)
    refine nl ?_
    refine p1 3 ?_
    refine yl ag_64 3 (nl ?_)
    refine p1 9 ?_
    refine AWL.mapUpd (k := .s _) (i := 2) rfl rfl (.inl rfl) mp_64 rfl (E rfl rfl) (E rfl rfl) (E rfl rfl) rfl rfl (files_good _) (nl ?_)
    refine AWP.done (by kernel_rfl) ?_
    refine AW.dropAt 0 ?_
    refine AW.region ?_
    refine Y1 (Yv.addN_i64 rfl eV eV (fun hg => by omega)) ?_
    refine ym (nl ?_)
    have hkey := put_new (l := fl) ⟨(files.getD j default).1, (files.getD j default).2, A46, c46⟩ hnone
    refine ⟨j + 1, fl ++ [⟨(files.getD j default).1, (files.getD j default).2, A46, c46⟩], ⟨by omega, ?_⟩, by omega, (su (su (su (su (Sub.cons rfl (by simp) Sub.nil))))), ?_⟩
    ·rw [hsu, stepN, if_pos hadd, ← hfl, List.map_append]; rfl
    rw [← hkey, List.map_append]; rfl
   refine yl ag_9 0 (nl ?_)
   refine AWP.three (i := 3) (j := 5) (k := 8) (by kernel_rfl) rfl rfl rfl ?_ ?_ ?_
   ·refine yl ag_64 3 (nl ?_)
    refine AWP.two (i := 5) (j := 8) (by kernel_rfl) rfl rfl ?_ ?_
    ·refine yl ag_9 0 (nl ?_)
     refine p1 8 ?_
     refine AWL.strBytesRow rfl rfl (B rfl) rfl st_9 so_23 kd_5 (E rfl rfl) (by show _ ≤ _; have := hd _ (getD_mem' (l := files) (j := j) (by omega)); unfold maxLen; exact Nat.le_trans this (by decide)) (fun A46 c46 => ?_)
     refine nl ?_
     refine p1 9 ?_
     refine AWL.mapUpd (k := .s _) (i := 2) rfl rfl (.inl rfl) mp_64 rfl (E rfl rfl) (E rfl rfl) (E rfl rfl) rfl rfl (files_good _) (nl ?_)
     refine AWP.done (by kernel_rfl) ?_
     refine AW.dropAt 0 ?_
     refine AW.region ?_
     refine Y1 (Yv.addN_i64 rfl eV eV (fun hg => by omega)) ?_
     refine ym (nl ?_)
     have hkey := put_new (l := fl) ⟨(files.getD j default).1, (files.getD j default).2, A46, c46⟩ hnone
     refine ⟨j + 1, fl ++ [⟨(files.getD j default).1, (files.getD j default).2, A46, c46⟩], ⟨by omega, ?_⟩, by omega, (su (su (su (su (Sub.cons rfl (by simp) Sub.nil))))), ?_⟩
     ·rw [hsu, stepN, if_pos hadd, ← hfl, List.map_append]; rfl
     rw [← hkey, List.map_append]; rfl
    refine AWL.strBytesRow rfl rfl (B rfl) rfl st_9 so_23 kd_5 (E rfl rfl) (by show _ ≤ _; have := hd _ (getD_mem' (l := files) (j := j) (by omega)); unfold maxLen; exact Nat.le_trans this (by decide)) (fun A46 c46 => ?_)
    refine nl ?_
    refine p1 5 ?_
    refine yl ag_9 0 (nl ?_)
    refine p1 9 ?_
    refine AWL.mapUpd (k := .s _) (i := 2) rfl rfl (.inl rfl) mp_64 rfl (E rfl rfl) (E rfl rfl) (E rfl rfl) rfl rfl (files_good _) (nl ?_)
    refine AWP.done (by kernel_rfl) ?_
    refine AW.dropAt 0 ?_
    refine AW.region ?_
    refine Y1 (Yv.addN_i64 rfl eV eV (fun hg => by omega)) ?_
    refine ym (nl ?_)
    have hkey := put_new (l := fl) ⟨(files.getD j default).1, (files.getD j default).2, A46, c46⟩ hnone
    refine ⟨j + 1, fl ++ [⟨(files.getD j default).1, (files.getD j default).2, A46, c46⟩], ⟨by omega, ?_⟩, by omega, (su (su (su (su (Sub.cons rfl (by simp) Sub.nil))))), ?_⟩
    ·rw [hsu, stepN, if_pos hadd, ← hfl, List.map_append]; rfl
    rw [← hkey, List.map_append]; rfl
   ·refine yl ag_9 0 (nl ?_)
    refine AWP.two (i := 3) (j := 8) (by kernel_rfl) rfl rfl ?_ ?_
    ·refine yl ag_64 3 (nl ?_)
     refine p1 8 ?_
     refine AWL.strBytesRow rfl rfl (B rfl) rfl st_9 so_23 kd_5 (E rfl rfl) (by show _ ≤ _; have := hd _ (getD_mem' (l := files) (j := j) (by omega)); unfold maxLen; exact Nat.le_trans this (by decide)) (fun A46 c46 => ?_)
     refine nl ?_
     refine p1 9 ?_
     refine AWL.mapUpd (k := .s _) (i := 2) rfl rfl (.inl rfl) mp_64 rfl (E rfl rfl) (E rfl rfl) (E rfl rfl) rfl rfl (files_good _) (nl ?_)
     refine AWP.done (by kernel_rfl) ?_
     refine AW.dropAt 0 ?_
     refine AW.region ?_
     refine Y1 (Yv.addN_i64 rfl eV eV (fun hg => by omega)) ?_
     refine ym (nl ?_)
     have hkey := put_new (l := fl) ⟨(files.getD j default).1, (files.getD j default).2, A46, c46⟩ hnone
     refine ⟨j + 1, fl ++ [⟨(files.getD j default).1, (files.getD j default).2, A46, c46⟩], ⟨by omega, ?_⟩, by omega, (su (su (su (su (Sub.cons rfl (by simp) Sub.nil))))), ?_⟩
     ·rw [hsu, stepN, if_pos hadd, ← hfl, List.map_append]; rfl
     rw [← hkey, List.map_append]; rfl
    refine AWL.strBytesRow rfl rfl (B rfl) rfl st_9 so_23 kd_5 (E rfl rfl) (by show _ ≤ _; have := hd _ (getD_mem' (l := files) (j := j) (by omega)); unfold maxLen; exact Nat.le_trans this (by decide)) (fun A46 c46 => ?_)
    refine nl ?_
    refine p1 3 ?_
    refine yl ag_64 3 (nl ?_)
    refine p1 9 ?_
    refine AWL.mapUpd (k := .s _) (i := 2) rfl rfl (.inl rfl) mp_64 rfl (E rfl rfl) (E rfl rfl) (E rfl rfl) rfl rfl (files_good _) (nl ?_)
    refine AWP.done (by kernel_rfl) ?_
    refine AW.dropAt 0 ?_
    refine AW.region ?_
    refine Y1 (Yv.addN_i64 rfl eV eV (fun hg => by omega)) ?_
    refine ym (nl ?_)
    have hkey := put_new (l := fl) ⟨(files.getD j default).1, (files.getD j default).2, A46, c46⟩ hnone
    refine ⟨j + 1, fl ++ [⟨(files.getD j default).1, (files.getD j default).2, A46, c46⟩], ⟨by omega, ?_⟩, by omega, (su (su (su (su (Sub.cons rfl (by simp) Sub.nil))))), ?_⟩
    ·rw [hsu, stepN, if_pos hadd, ← hfl, List.map_append]; rfl
    rw [← hkey, List.map_append]; rfl
   refine AWL.strBytesRow rfl rfl (B rfl) rfl st_9 so_23 kd_5 (E rfl rfl) (by show _ ≤ _; have := hd _ (getD_mem' (l := files) (j := j) (by omega)); unfold maxLen; exact Nat.le_trans this (by decide)) (fun A46 c46 => ?_)
   refine nl ?_
   refine AWP.two (i := 3) (j := 5) (by kernel_rfl) rfl rfl ?_ ?_
   ·refine yl ag_64 3 (nl ?_)
    refine p1 5 ?_
    refine yl ag_9 0 (nl ?_)
    refine p1 9 ?_
    refine AWL.mapUpd (k := .s _) (i := 2) rfl rfl (.inl rfl) mp_64 rfl (E rfl rfl) (E rfl rfl) (E rfl rfl) rfl rfl (files_good _) (nl ?_)
    refine AWP.done (by kernel_rfl) ?_
    refine AW.dropAt 0 ?_
    refine AW.region ?_
    refine Y1 (Yv.addN_i64 rfl eV eV (fun hg => by omega)) ?_
    refine ym (nl ?_)
    have hkey := put_new (l := fl) ⟨(files.getD j default).1, (files.getD j default).2, A46, c46⟩ hnone
    refine ⟨j + 1, fl ++ [⟨(files.getD j default).1, (files.getD j default).2, A46, c46⟩], ⟨by omega, ?_⟩, by omega, (su (su (su (su (Sub.cons rfl (by simp) Sub.nil))))), ?_⟩
    ·rw [hsu, stepN, if_pos hadd, ← hfl, List.map_append]; rfl
    rw [← hkey, List.map_append]; rfl
   refine yl ag_9 0 (nl ?_)
   refine p1 3 ?_
   refine yl ag_64 3 (nl ?_)
   refine p1 9 ?_
   refine AWL.mapUpd (k := .s _) (i := 2) rfl rfl (.inl rfl) mp_64 rfl (E rfl rfl) (E rfl rfl) (E rfl rfl) rfl rfl (files_good _) (nl ?_)
   refine AWP.done (by kernel_rfl) ?_
   refine AW.dropAt 0 ?_
   refine AW.region ?_
   refine Y1 (Yv.addN_i64 rfl eV eV (fun hg => by omega)) ?_
   refine ym (nl ?_)
   have hkey := put_new (l := fl) ⟨(files.getD j default).1, (files.getD j default).2, A46, c46⟩ hnone
   refine ⟨j + 1, fl ++ [⟨(files.getD j default).1, (files.getD j default).2, A46, c46⟩], ⟨by omega, ?_⟩, by omega, (su (su (su (su (Sub.cons rfl (by simp) Sub.nil))))), ?_⟩
   ·rw [hsu, stepN, if_pos hadd, ← hfl, List.map_append]; rfl
   rw [← hkey, List.map_append]; rfl
  have hadd : ¬ (!((nF (files.take j)).any fun y => decide (y.1 = (files.getD j default).1)) && fitsB (files.getD j default).1) = true := by
   rw [← hfl, ← hasK_any]; intro h; exact absurd (h.symm.trans h1f) (by decide)
  refine AW.skip ?_
  refine AW.dropAt 0 ?_
  refine AW.region ?_
  refine Y1 (Yv.addN_i64 rfl eV eV (fun hg => by omega)) ?_
  refine ym (nl ?_)
  refine ⟨j + 1, fl, ⟨by omega, ?_⟩, by omega, (su (su (su (su (Sub.cons rfl (by simp) Sub.nil))))), rfl⟩
  rw [hsu, stepN, if_neg hadd]; exact hfl
 try replace h0f := odf h0f
 refine AW.exit ?_
 refine AW.rowNil 90 3 ?_
 refine AW.dropAt 0 ?_
 refine AW.perm (S' := .box b13 70 (wCells b8 stdin opnZ none 0 0) :: .map b8 (fl.map fileKey) :: .row none 0 0 90 3 [] :: fl.map fileRow) perm_new ?_
 refine AW.rseqP rfl ?_
 refine T1 (i := 0) rfl (freeMove rfl (E rfl rfl)) ?_
 refine T1 (i := 1) rfl (freeMove rfl (E rfl rfl)) ?_
 refine T1 (i := 2) rfl (freeMove rfl (E rfl rfl)) ?_
 refine T1 (i := 3) rfl (freeNil rfl (E rfl rfl)) ?_
 refine T1 (i := 4) rfl (freeField rfl fo_70_2 (E rfl rfl)) ?_
 refine T1 (i := 5) rfl (freeArr (j := 0) rfl ar_68 (E rfl rfl) (E rfl rfl) ⟨rfl, by decide⟩) ?_
 refine T1 (i := 6) rfl (freeField rfl fo_67_0 (E rfl rfl)) ?_
 refine T1 (i := 8) rfl (freeNil rfl (E rfl rfl)) ?_
 refine T1 (i := 9) rfl (freeField rfl fo_70_2 (E rfl rfl)) ?_
 refine T1 (i := 13) rfl (freeNil rfl (E rfl rfl)) ?_
 refine T1 (i := 14) rfl (freeField rfl fo_70_2 (E rfl rfl)) ?_
 refine p1 7 ?_
 refine AWL.storeBox (i := 0) rfl rfl rfl ag_3 rfl (E rfl rfl) (E rfl rfl) rfl rfl nB (nl ?_)
 refine p1 10 ?_
 refine Y1 (Yv.indexArr (j := 1) rfl ar_68 (E rfl rfl) (E rfl rfl) (fun hg => ⟨rfl, by decide⟩)) (nl ?_)
 refine p1 11 ?_
 refine yf fo_67_0 (nl ?_)
 refine p1 12 ?_
 refine AWL.storeBox (i := 0) rfl rfl rfl ag_3 rfl (E rfl rfl) (E rfl rfl) rfl rfl nB (nl ?_)
 refine p1 15 ?_
 refine Y1 (Yv.indexArr (j := 2) rfl ar_68 (E rfl rfl) (E rfl rfl) (fun hg => ⟨rfl, by decide⟩)) (nl ?_)
 refine p1 16 ?_
 refine yf fo_67_0 (nl ?_)
 refine p1 17 ?_
 refine AWL.storeBox (i := 0) rfl rfl rfl ag_3 rfl (E rfl rfl) (E rfl rfl) rfl rfl nB (nl ?_)
 refine AWP.done (by kernel_rfl) ?_
 refine rs (ym ?_)
 refine ya ?_
 refine AW.ret (retI (.tmp rfl .nil) ?_)
 refine ⟨b13, b8, fl, rfl, ?_, by rw [hfl, List.take_of_length_le (by omega)]⟩
 rfl

end Go.Proofs.Ytlfklgganokgdaa.V

namespace Go.Proofs.Ytlfklgganokgdaa.V
open Go Go.RowKit
abbrev Nm := List UInt8
abbrev Fl := List (Nm × List UInt8)
structure PW where
 files : Fl
 stdin : List UInt8
 opn : List Desc
 trace : List Evt
 deriving Inhabited
def absW (ws : WS) : PW := ⟨ws.files.map nb, ws.stdin, ws.opn, ws.trace⟩
def bl (a b : Nm) : Bool := Op.bytesLess a b
/-! ### the order of names -/
theorem bl_irrefl : ∀ a : Nm, bl a a = false
 | [] => rfl
 | x :: a => by
  show (decide (x < x) || ((x == x) && bl a a)) = false
  rw [bl_irrefl a]
  simp
theorem bl_trans : ∀ {a b c : Nm}, bl a b = true → bl b c = true → bl a c = true
 | [], [], c, h, _ => by cases h
 | [], y :: b, [], _, h => by cases h
 | [], y :: b, z :: c, _, _ => rfl
 | x :: a, [], c, h, _ => by cases h
 | x :: a, y :: b, [], _, h => by cases h
 | x :: a, y :: b, z :: c, h1, h2 => by
  have h1 : (decide (x < y) || ((x == y) && bl a b)) = true := h1
  have h2 : (decide (y < z) || ((y == z) && bl b c)) = true := h2
  show (decide (x < z) || ((x == z) && bl a c)) = true
  rw [Bool.or_eq_true, Bool.and_eq_true, decide_eq_true_eq, beq_iff_eq] at h1 h2 ⊢
  rcases h1 with h1 | ⟨h1, h3⟩ <;> rcases h2 with h2 | ⟨h2, h4⟩
  ·exact .inl (UInt8.lt_trans h1 h2)
  ·exact .inl (h2 ▸ h1)
  ·exact .inl (h1 ▸ h2)
  ·exact .inr ⟨h1.trans h2, bl_trans h3 h4⟩
theorem bl_total : ∀ {a b : Nm}, bl a b = false → bl b a = false → a = b
 | [], [], _, _ => rfl
 | [], y :: b, h, _ => by cases h
 | x :: a, [], _, h => by cases h
 | x :: a, y :: b, h1, h2 => by
  have h1 : (decide (x < y) || ((x == y) && bl a b)) = false := h1
  have h2 : (decide (y < x) || ((y == x) && bl b a)) = false := h2
  rw [Bool.or_eq_false_iff, decide_eq_false_iff_not] at h1 h2
  have hxy : x = y := by
   have a1 := h1.1
   have a2 := h2.1
   rw [UInt8.lt_iff_toNat_lt] at a1 a2
   exact UInt8.toNat_inj.1 (by omega)
  subst hxy
  have e1 : bl a b = false := by simpa using h1.2
  have e2 : bl b a = false := by simpa using h2.2
  rw [bl_total e1 e2]
theorem bl_not {a b : Nm} (h : bl a b = false) : a = b ∨ bl b a = true := by
 cases h2 : bl b a
 ·exact .inl (bl_total h h2)
 exact .inr rfl
def Srt (l : Fl) : Prop := l.Pairwise fun a b => bl a.1 b.1 = true
theorem Srt.nodup {l : Fl} (h : Srt l) : (l.map (·.1)).Nodup := by
 rw [List.Nodup, List.pairwise_map]
 exact h.imp fun {a b} hab e => by rw [e, bl_irrefl] at hab; cases hab
/-! ### files by name -/
def getP (name : Nm) : Fl → Option (List UInt8)
 | [] => none
 | x :: r => if x.1 = name then some x.2 else getP name r
def putP (name : Nm) (b : List UInt8) : Fl → Fl
 | [] => [(name, b)]
 | x :: r => if x.1 = name then (name, b) :: r else x :: putP name b r
theorem getP_none {name : Nm} : ∀ {l : Fl}, getP name l = none ↔ ∀ x ∈ l, ¬ x.1 = name
 | [] => by simp [getP]
 | x :: r => by
  rw [getP]
  by_cases h : x.1 = name
  ·rw [if_pos h]
   simp [h]
  ·rw [if_neg h, getP_none (l := r)]
   simp [h]
theorem getP_mem {name : Nm} {b : List UInt8} : ∀ {l : Fl}, getP name l = some b → (name, b) ∈ l
 | [], h => by cases h
 | x :: r, h => by
  rw [getP] at h
  by_cases hx : x.1 = name
  ·rw [if_pos hx, Option.some.injEq] at h
   rw [← h, ← hx]
   exact List.mem_cons_self ..
  ·rw [if_neg hx] at h
   exact List.mem_cons_of_mem _ (getP_mem h)
theorem mem_getP {name : Nm} {b : List UInt8} : ∀ {l : Fl}, (l.map (·.1)).Nodup → (name, b) ∈ l → getP name l = some b
 | [], _, h => by cases h
 | x :: r, hn, h => by
  rw [List.map_cons, List.nodup_cons] at hn
  rw [getP]
  rcases List.mem_cons.1 h with h | h
  ·rw [← h, if_pos rfl]
  ·rw [if_neg (fun e => hn.1 (by rw [e]; exact List.mem_map.2 ⟨_, h, rfl⟩)), mem_getP hn.2 h]
theorem getP_perm {name : Nm} {l l' : Fl} (hn : (l.map (·.1)).Nodup) (h : l.Perm l') : getP name l = getP name l' := by
 have hn' : (l'.map (·.1)).Nodup := (h.map (·.1)).nodup_iff.1 hn
 cases e : getP name l with
 | some b => exact (mem_getP hn' (h.subset (getP_mem e))).symm
 | none =>
  symm
  rw [getP_none] at e ⊢
  exact fun x hx => e x (h.symm.subset hx)
theorem putP_names {name : Nm} {b b' : List UInt8} : ∀ {l : Fl}, getP name l = some b' → (putP name b l).map (·.1) = l.map (·.1)
 | [], h => by cases h
 | x :: r, h => by
  rw [getP] at h
  rw [putP]
  by_cases hx : x.1 = name
  ·rw [if_pos hx, List.map_cons, List.map_cons, hx]
  ·rw [if_neg hx] at h
   rw [if_neg hx, List.map_cons, List.map_cons, putP_names h]
theorem putP_new {name : Nm} {b : List UInt8} : ∀ {l : Fl}, getP name l = none → putP name b l = l ++ [(name, b)]
 | [], _ => rfl
 | x :: r, h => by
  rw [getP] at h
  by_cases hx : x.1 = name
  ·rw [if_pos hx] at h; cases h
  ·rw [if_neg hx] at h
   rw [putP, if_neg hx, putP_new h]
   rfl
theorem mem_putP {name : Nm} {b : List UInt8} {x : Nm × List UInt8} : ∀ {l : Fl}, (l.map (·.1)).Nodup → (x ∈ putP name b l ↔ x = (name, b) ∨ (x ∈ l ∧ ¬ x.1 = name))
 | [], _ => by simp [putP]
 | y :: r, hn => by
  rw [List.map_cons, List.nodup_cons] at hn
  rw [putP]
  by_cases hy : y.1 = name
  ·rw [if_pos hy]
   constructor
   ·intro h
    rcases List.mem_cons.1 h with h | h
    ·exact .inl h
    ·exact .inr ⟨List.mem_cons_of_mem _ h, fun e => hn.1 (by rw [hy, ← e]; exact List.mem_map.2 ⟨x, h, rfl⟩)⟩
   ·rintro (h | ⟨h1, h2⟩)
    ·rw [h]; exact List.mem_cons_self ..
    ·rcases List.mem_cons.1 h1 with h | h
     ·exact absurd (h ▸ hy) h2
     ·exact List.mem_cons_of_mem _ h
  ·rw [if_neg hy, List.mem_cons, mem_putP hn.2, List.mem_cons]
   constructor
   ·rintro (h | h | ⟨h1, h2⟩)
    ·exact .inr ⟨.inl h, h ▸ hy⟩
    ·exact .inl h
    ·exact .inr ⟨.inr h1, h2⟩
   ·rintro (h | ⟨h1 | h1, h2⟩)
    ·exact .inr (.inl h)
    ·exact .inl h1
    ·exact .inr (.inr ⟨h1, h2⟩)
theorem putP_nodup {name : Nm} {b : List UInt8} {l : Fl} (hn : (l.map (·.1)).Nodup) : ((putP name b l).map (·.1)).Nodup := by
 cases e : getP name l with
 | some b' => rw [putP_names e]; exact hn
 | none =>
  rw [putP_new e, List.map_append, List.nodup_append]
  refine ⟨hn, by simp, fun p hp q hq => ?_⟩
  rw [getP_none] at e
  obtain ⟨x, hx, rfl⟩ := List.mem_map.1 hp
  simp only [List.map_cons, List.map_nil, List.mem_singleton] at hq
  rw [hq]
  exact e x hx
theorem nodup_of_map {l : Fl} (h : (l.map (·.1)).Nodup) : l.Nodup := by
 rw [List.Nodup, List.pairwise_map] at h
 exact h.imp fun {a b} hab e => hab (by rw [e])
theorem putP_perm {name : Nm} {b : List UInt8} {l l' : Fl} (hn : (l.map (·.1)).Nodup) (h : l.Perm l') : (putP name b l).Perm (putP name b l') := by
 have hn' : (l'.map (·.1)).Nodup := (h.map (·.1)).nodup_iff.1 hn
 rw [List.perm_ext_iff_of_nodup (nodup_of_map (putP_nodup hn)) (nodup_of_map (putP_nodup hn'))]
 intro x
 rw [mem_putP hn, mem_putP hn']
 constructor
 ·rintro (h1 | ⟨h1, h2⟩)
  ·exact .inl h1
  exact .inr ⟨h.subset h1, h2⟩
 rintro (h1 | ⟨h1, h2⟩)
 ·exact .inl h1
 exact .inr ⟨h.symm.subset h1, h2⟩
theorem putP_srt {name : Nm} {b b' : List UInt8} {l : Fl} (hs : Srt l) (h : getP name l = some b') : Srt (putP name b l) := by
 have e := putP_names (b := b) h
 have : (l.map (·.1)).Pairwise fun a b => bl a b = true := by rw [List.pairwise_map]; exact hs
 rw [← e, List.pairwise_map] at this
 exact this
structure Laid (x : Nm × List UInt8) (l l' : Fl) : Prop where
 is : ∃ i, i ≤ l.length ∧ l' = l.take i ++ x :: l.drop i ∧ (∀ y ∈ l.drop i, bl x.1 y.1 = true) ∧ (i = 0 ∨ bl x.1 (l.getD (i - 1) default).1 = false)
theorem laid_srt {x : Nm × List UInt8} {l l' : Fl} (hs : Srt l) (hx : getP x.1 l = none) (h : Laid x l l') : Srt l' ∧ (putP x.1 x.2 l).Perm l' := by
 obtain ⟨i, hi, rfl, h1, h2⟩ := h.is
 rw [getP_none] at hx
 have hsp : Srt (l.take i ++ l.drop i) := by rw [List.take_append_drop]; exact hs
 rw [Srt, List.pairwise_append] at hsp
 refine ⟨?_, ?_⟩
 ·rw [Srt, List.pairwise_append, List.pairwise_cons]
  have hb : ∀ a ∈ l.take i, bl a.1 x.1 = true := by
   intro a ha
   rcases h2 with h2 | h2
   ·rw [h2] at ha; simp at ha
   ·have hpos : 0 < i := by
     rcases Nat.eq_zero_or_pos i with e | e
     ·rw [e] at ha; simp at ha
     ·exact e
    have hlast : (l.getD (i - 1) default) ∈ l := by rw [getD_eq' (by omega)]; exact List.getElem_mem _
    have hl : bl (l.getD (i - 1) default).1 x.1 = true := (bl_not h2).resolve_left (fun e => hx _ hlast e.symm)
    obtain ⟨k, hk, rfl⟩ := List.mem_iff_getElem.1 ha
    rw [List.length_take] at hk
    rw [List.getElem_take]
    rcases Nat.lt_or_ge k (i - 1) with hlt | hge
    ·have := List.pairwise_iff_getElem.1 hs k (i - 1) (by omega) (by omega) hlt
     rw [getD_eq' (by omega)] at hl
     exact bl_trans this hl
    ·have : k = i - 1 := by omega
     subst this
     rw [getD_eq' (by omega)] at hl
     exact hl
  refine ⟨hsp.1, ⟨h1, hsp.2.1⟩, fun a ha c hc => ?_⟩
  rcases List.mem_cons.1 hc with hc | hc
  ·rw [hc]; exact hb a ha
  exact hsp.2.2 a ha c hc
 rw [putP_new (getP_none.2 hx)]
 have e : (l.take i ++ x :: l.drop i).Perm (l.take i ++ (l.drop i ++ [x])) := List.Perm.append_left _ (List.perm_append_singleton x _).symm
 rw [← List.append_assoc, List.take_append_drop] at e
 exact e.symm
/-! ### what the calls do -/
def badN (name : Nm) : Bool := name.any fun c => decide (c = 0)
theorem idx_bad : ∀ name : Nm, (0 ≤ Lib.indexByte name 0) ↔ badN name = true
 | [] => by simp [Lib.indexByte, badN]
 | c :: r => by
  have ih := idx_bad r
  have hge := Lib.indexByte_ge r 0
  unfold badN at ih ⊢
  rw [List.any_cons, Bool.or_eq_true, decide_eq_true_eq, ← ih]
  rw [Lib.indexByte]
  simp only [beq_iff_eq]
  by_cases hc : c = 0
  ·rw [if_pos hc]
   exact ⟨fun _ => .inl hc, fun _ => Int.le_refl _⟩
  ·rw [if_neg hc]
   constructor
   ·intro h
    right
    split at h
    ·omega
    ·omega
   ·rintro (h | h)
    ·exact absurd h hc
    ·rw [if_neg (by omega)]
     omega
def openV (name : Nm) (flags : Int) (p : PW) : Int :=
 if 255 < name.length then -36 else if (flags ≠ 0 ∧ flags ≠ 577) ∨ badN name = true then -22 else if name = [] then -2 else if flags = 0 ∧ getP name p.files = none then -2 else if freeIx p.opn < 19 then freeIx p.opn else -24
def openP (name : Nm) (flags : Int) (p : PW) : PW :=
 if openV name flags p < 0 then p else if flags = 577 then
  { p with opn := p.opn.set (freeIx p.opn) ⟨5, name, 0⟩, files := putP name [] p.files, trace := p.trace ++ [⟨3, name, []⟩] }
 else { p with opn := p.opn.set (freeIx p.opn) ⟨4, name, 0⟩ }
def kindP (fd : Int) (p : PW) : Int := if fd < 0 ∨ 19 ≤ fd then 0 else (p.opn.getD fd.toNat default).kind
def readV (fd : Int) (n : Int) (p : PW) : List UInt8 × Int :=
 if kindP fd p = 1 then (p.stdin.take n.toNat, ((p.stdin.take n.toNat).length : Int))
 else if kindP fd p = 4 then
  let b := (((getP (p.opn.getD fd.toNat default).name p.files).getD []).drop (p.opn.getD fd.toNat default).place).take n.toNat
  (b, (b.length : Int))
 else ([], -9)
def readP (fd : Int) (n : Int) (p : PW) : PW :=
 if kindP fd p = 1 then { p with stdin := p.stdin.drop n.toNat }
 else if kindP fd p = 4 then { p with opn := p.opn.set fd.toNat { p.opn.getD fd.toNat default with place := (p.opn.getD fd.toNat default).place + ((((getP (p.opn.getD fd.toNat default).name p.files).getD []).drop (p.opn.getD fd.toNat default).place).take n.toNat).length } }
 else p
def writeV (fd : Int) (s : List UInt8) (p : PW) : Int := if kindP fd p = 2 ∨ kindP fd p = 3 ∨ kindP fd p = 5 then (s.length : Int) else -9
def writeP (fd : Int) (s : List UInt8) (p : PW) : PW :=
 if kindP fd p = 2 then { p with trace := sayF 1 [] s p.trace }
 else if kindP fd p = 3 then { p with trace := sayF 2 [] s p.trace }
 else if kindP fd p = 5 then
  (if s = [] then p else { p with
   files := putP (p.opn.getD fd.toNat default).name (writeAt ((getP (p.opn.getD fd.toNat default).name p.files).getD []) (p.opn.getD fd.toNat default).place s) p.files,
   opn := p.opn.set fd.toNat { p.opn.getD fd.toNat default with place := (p.opn.getD fd.toNat default).place + s.length },
   trace := sayF 3 (p.opn.getD fd.toNat default).name s p.trace })
 else p
def closeV (fd : Int) (p : PW) : Int := if kindP fd p = 0 then -9 else 0
def closeP (fd : Int) (p : PW) : PW := if kindP fd p = 0 then p else { p with opn := p.opn.set fd.toNat ⟨0, [], 0⟩ }
/-! ### side by side -/
structure Side (r d : PW) : Prop where
 stdin : d.stdin = r.stdin
 opn : d.opn = r.opn
 trace : d.trace = r.trace
 files : r.files.Perm d.files
 srt : Srt d.files
theorem Side.nodup {r d : PW} (h : Side r d) : (r.files.map (·.1)).Nodup := (h.files.map (·.1)).nodup_iff.2 h.srt.nodup
theorem Side.get {r d : PW} (h : Side r d) (name : Nm) : getP name d.files = getP name r.files := (getP_perm h.nodup h.files).symm
theorem Side.kind {r d : PW} (h : Side r d) (fd : Int) : kindP fd d = kindP fd r := by unfold kindP; rw [h.opn]
theorem Side.openV {r d : PW} (h : Side r d) (name : Nm) (flags : Int) : openV name flags d = openV name flags r := by unfold Go.Proofs.Ytlfklgganokgdaa.V.openV; rw [h.opn, h.get]
theorem Side.close {r d : PW} (h : Side r d) (fd : Int) : Side (closeP fd r) (closeP fd d) := by
 unfold closeP
 rw [h.kind, h.opn]
 split
 ·exact h
 exact ⟨h.stdin, rfl, h.trace, h.files, h.srt⟩
def Named (p : PW) : Prop := p.opn.length = 19 ∧ ∀ d ∈ p.opn, (d.kind = 4 ∨ d.kind = 5) → (getP d.name p.files).isSome = true
theorem Side.write {r d : PW} (h : Side r d) (hn : Named r) (fd : Int) (s : List UInt8) : Side (writeP fd s r) (writeP fd s d) := by
 unfold writeP
 rw [h.kind, h.trace, h.opn, h.get]
 split
 ·exact ⟨h.stdin, rfl, rfl, h.files, h.srt⟩
 split
 ·exact ⟨h.stdin, rfl, rfl, h.files, h.srt⟩
 split
 ·rename_i hk
  split
  ·exact h
  have hi : ¬ (fd < 0 ∨ 19 ≤ fd) := by
   intro q
   unfold kindP at hk
   rw [if_pos q] at hk
   exact absurd hk (by decide)
  have hlt : fd.toNat < r.opn.length := by have := hn.1; omega
  have hd : (r.opn.getD fd.toNat default).kind = 5 := by unfold kindP at hk; rwa [if_neg hi] at hk
  have hm : r.opn.getD fd.toNat default ∈ r.opn := by rw [getD_eq' hlt]; exact List.getElem_mem _
  obtain ⟨b, hb⟩ := Option.isSome_iff_exists.1 (hn.2 _ hm (.inr hd))
  exact ⟨h.stdin, rfl, rfl, putP_perm h.nodup h.files, putP_srt h.srt (by rw [h.get]; exact hb)⟩
 exact h
/-! ### names stay named -/
theorem getP_put {name m : Nm} {b : List UInt8} : ∀ {l : Fl}, (getP m (putP name b l)).isSome = ((getP m l).isSome || decide (m = name))
 | [] => by
  unfold putP getP getP
  by_cases h : name = m
  ·simp [h, getP]
  ·simp [h, getP, Ne.symm h]
 | x :: r => by
  rw [putP]
  by_cases hx : x.1 = name
  ·rw [if_pos hx, getP, getP]
   by_cases h : name = m
   ·simp [h, hx]
   ·have : ¬ x.1 = m := fun e => h (hx ▸ e)
    simp [h, this, Ne.symm h]
  ·rw [if_neg hx, getP, getP]
   by_cases h : x.1 = m
   ·simp [h]
   ·rw [if_neg h, if_neg h, getP_put]
theorem named_set {p : PW} (h : Named p) {j : Nat} {d : Desc} (hd : (d.kind = 4 ∨ d.kind = 5) → (getP d.name p.files).isSome = true) : Named { p with opn := p.opn.set j d } := by
 refine ⟨by rw [List.length_set]; exact h.1, fun x hx => ?_⟩
 rcases List.mem_or_eq_of_mem_set hx with hx | rfl
 ·exact h.2 x hx
 exact hd
theorem named_close {p : PW} (h : Named p) (fd : Int) : Named (closeP fd p) := by
 unfold closeP
 split
 ·exact h
 exact named_set h (fun q => by simp at q)
theorem kind_in {p : PW} {fd : Int} (h : Named p) (hk : ¬ kindP fd p = 0) : 0 ≤ fd ∧ fd < 19 ∧ fd.toNat < p.opn.length ∧ p.opn.getD fd.toNat default ∈ p.opn ∧ kindP fd p = (p.opn.getD fd.toNat default).kind := by
 unfold kindP at hk ⊢
 by_cases q : fd < 0 ∨ 19 ≤ fd
 ·rw [if_pos q] at hk; exact absurd rfl hk
 rw [if_neg q]
 have hl := h.1
 refine ⟨by omega, by omega, by omega, ?_, rfl⟩
 rw [getD_eq' (by omega)]
 exact List.getElem_mem _
theorem named_read {p : PW} (h : Named p) (fd n : Int) : Named (readP fd n p) := by
 unfold readP
 split
 ·exact h
 split
 ·rename_i hk
  obtain ⟨_, _, _, hm, he⟩ := kind_in h (fd := fd) (by rw [hk]; decide)
  exact named_set h (fun q => h.2 (p.opn.getD fd.toNat default) hm q)
 exact h
theorem named_write {p : PW} (h : Named p) (fd : Int) (s : List UInt8) : Named (writeP fd s p) := by
 unfold writeP
 split
 ·exact h
 split
 ·exact h
 split
 ·rename_i hk
  split
  ·exact h
  obtain ⟨_, _, _, hm, he⟩ := kind_in h (fd := fd) (by rw [hk]; decide)
  refine ⟨by show (p.opn.set _ _).length = 19; rw [List.length_set]; exact h.1, fun x hx q => ?_⟩
  show (getP x.name (putP _ _ p.files)).isSome = true
  rw [getP_put]
  rcases List.mem_or_eq_of_mem_set hx with hx | rfl
  ·rw [h.2 x hx q]; rfl
  simp
 exact h
theorem named_open {p : PW} (h : Named p) (name : Nm) (flags : Int) : Named (openP name flags p) := by
 unfold openP
 split
 ·exact h
 rename_i hv
 split
 ·refine ⟨by show (p.opn.set _ _).length = 19; rw [List.length_set]; exact h.1, fun x hx q => ?_⟩
  show (getP x.name (putP _ _ p.files)).isSome = true
  rw [getP_put]
  rcases List.mem_or_eq_of_mem_set hx with hx | rfl
  ·rw [h.2 x hx q]; rfl
  simp
 rename_i hf
 refine named_set h (fun _ => ?_)
 show (getP name p.files).isSome = true
 unfold openV at hv
 split at hv
 ·exact absurd (by decide) hv
 split at hv
 ·exact absurd (by decide) hv
 split at hv
 ·exact absurd (by decide) hv
 split at hv
 ·exact absurd (by decide) hv
 rename_i h1 h2 h3 h4
 cases e : getP name p.files with
 | some b => rfl
 | none => exact absurd ⟨by omega, e⟩ h4
end Go.Proofs.Ytlfklgganokgdaa.V

namespace Go.Proofs.Ytlfklgganokgdaa.V
open Go Go.RowKit
structure DS where
 files : List FileR
 lA : Option Addr
 lc : Nat
 stdin : List UInt8
 opn : List Desc
 dA : Option Addr
 dc : Nat
 trace : List Evt
 tA : Option Addr
 tc : Nat
 deriving Inhabited
def findP (name : Nm) (l : Fl) : Int := match l.findIdx? (fun x => decide (x.1 = name)) with | some i => (i : Int) | none => -1
theorem findP_yes {name : Nm} {l : Fl} {j : Nat} (hj : j < l.length) (hb : ∀ i, i < j → ¬ (l.getD i default).1 = name) (h : (l.getD j default).1 = name) : findP name l = (j : Int) := by
 have : l.findIdx? (fun x => decide (x.1 = name)) = some j := by
  rw [List.findIdx?_eq_some_iff_getElem]
  refine ⟨hj, ?_, fun i hi => ?_⟩
  ·rw [getD_eq' hj] at h
   simpa using h
  ·have := hb i hi
   rw [getD_eq' (by omega)] at this
   simpa using this
 unfold findP
 rw [this]
theorem findP_no {name : Nm} {l : Fl} (hb : ∀ i, i < l.length → ¬ (l.getD i default).1 = name) : findP name l = -1 ∧ getP name l = none := by
 have hm : ∀ x ∈ l, ¬ x.1 = name := by
  intro x hx
  obtain ⟨i, hi, rfl⟩ := List.mem_iff_getElem.1 hx
  have := hb i hi
  rwa [getD_eq' hi] at this
 have : l.findIdx? (fun x => decide (x.1 = name)) = none := by
  rw [List.findIdx?_eq_none_iff]
  intro x hx
  simpa using hm x hx
 refine ⟨?_, getP_none.2 hm⟩
 unfold findP
 rw [this]
theorem findP_get {name : Nm} : ∀ {l : Fl}, (findP name l = -1 ∧ getP name l = none) ∨ ∃ j : Nat, findP name l = (j : Int) ∧ j < l.length ∧ (l.getD j default).1 = name ∧ getP name l = some (l.getD j default).2 ∧ ∀ b, putP name b l = l.set j (name, b)
 | [] => .inl ⟨rfl, rfl⟩
 | x :: r => by
  by_cases h : x.1 = name
  ·refine .inr ⟨0, ?_, by simp, by simpa using h, by rw [getP, if_pos h]; rfl, fun b => by rw [putP, if_pos h]; rfl⟩
   exact findP_yes (by simp) (fun i hi => by omega) (by simpa using h)
  ·rcases findP_get (name := name) (l := r) with ⟨h1, h2⟩ | ⟨j, h1, h2, h3, h4, h5⟩
   ·left
    refine ⟨?_, by rw [getP, if_neg h]; exact h2⟩
    rw [getP_none] at h2
    refine (findP_no fun i hi => ?_).1
    cases i with
    | zero => simpa using h
    | succ i =>
     have hi' : i < r.length := by simpa using hi
     rw [List.getD_cons_succ, getD_eq' hi']
     exact h2 _ (List.getElem_mem _)
   ·right
    refine ⟨j + 1, ?_, by simpa using h2, by rw [List.getD_cons_succ]; exact h3, by rw [getP, if_neg h, List.getD_cons_succ]; exact h4, fun b => by rw [putP, if_neg h, h5]; rfl⟩
    have hn : ∀ i : Nat, i < j → ¬ (r.getD i default).1 = name := by
     intro i hi e
     unfold findP at h1
     split at h1
     ·rename_i k hk
      rw [List.findIdx?_eq_some_iff_getElem] at hk
      obtain ⟨hk1, _, hk3⟩ := hk
      have hkj : k = j := by omega
      have := hk3 i (by omega)
      rw [getD_eq' (by omega)] at e
      simp [e] at this
     ·omega
    refine findP_yes (by simpa using h2) (fun i hi => ?_) (by rw [List.getD_cons_succ]; exact h3)
    cases i with
    | zero => simpa using h
    | succ i => rw [List.getD_cons_succ]; exact hn i (by omega)
theorem nb_at {l : List FileR} {j : Nat} (h : j < l.length) : (l.map nb).getD j default = nb (l.getD j default) := by
 rw [getD_eq' (by rw [List.length_map]; exact h), getD_eq' h, List.getElem_map]
/-! ### opening, for the document -/
structure DOpen (name : Nm) (flags : Int) (p p' : PW) : Prop where
 is : (openV name flags p < 0 ∧ p' = p) ∨ (¬ openV name flags p < 0 ∧ ¬ flags = 577 ∧ p' = openP name flags p) ∨
  (¬ openV name flags p < 0 ∧ flags = 577 ∧ p'.opn = p.opn.set (freeIx p.opn) ⟨5, name, 0⟩ ∧ p'.stdin = p.stdin ∧ p'.trace = p.trace ++ [⟨3, name, []⟩] ∧
   ((∃ b, getP name p.files = some b) ∧ p'.files = putP name [] p.files ∨ getP name p.files = none ∧ Laid (name, []) p.files p'.files))
theorem Side.openD {r d d' : PW} {name : Nm} {flags : Int} (h : Side r d) (ho : DOpen name flags d d') : Side (openP name flags r) d' := by
 have hv := h.openV name flags
 rcases ho.is with ⟨h1, rfl⟩ | ⟨h1, h2, rfl⟩ | ⟨h1, h2, h3, h4, h5, h6⟩
 ·unfold openP
  rw [if_pos (by rw [← hv]; exact h1)]
  exact h
 ·unfold openP
  rw [hv] at h1 ⊢
  rw [if_neg h1, if_neg h1, if_neg h2, if_neg h2]
  exact ⟨h.stdin, by rw [h.opn], h.trace, h.files, h.srt⟩
 unfold openP
 rw [hv] at h1
 rw [if_neg h1, if_pos h2]
 refine ⟨by rw [h4]; exact h.stdin, by rw [h3, h.opn], by rw [h5, h.trace], ?_, ?_⟩
 ·rcases h6 with ⟨⟨b, hb⟩, e⟩ | ⟨hb, hl⟩
  ·rw [e]
   exact putP_perm h.nodup h.files
  exact (putP_perm h.nodup h.files).trans (laid_srt h.srt hb hl).2
 rcases h6 with ⟨⟨b, hb⟩, e⟩ | ⟨hb, hl⟩
 ·rw [e]
  exact putP_srt h.srt hb
 exact (laid_srt h.srt hb hl).1
/-! ### bounds -/
structure PB (n : Nat) (p : PW) : Prop where
 opn : p.opn.length = 19
 tr : p.trace.length ≤ n
 txt : ∀ e ∈ p.trace, e.text.length ≤ n
 fl : ∀ f ∈ p.files, f.2.length ≤ n
 pl : ∀ d ∈ p.opn, d.place ≤ n
 sin : p.stdin.length ≤ n
 nf : p.files.length ≤ n
end Go.Proofs.Ytlfklgganokgdaa.V

namespace Go.Proofs.Ytlfklgganokgdaa.V
open Go Go.RowKit
theorem set_rows {l : List FileR} {q : Nat} (h : q < l.length) (f : FileR) : ∃ S', List.Sublist S' (l.map fileRow ++ [fileRow f]) ∧ ((l.set q f).map fileRow).Perm S' := by
 have e0 : l = l.take q ++ l[q] :: l.drop (q + 1) := by rw [← List.drop_eq_getElem_cons h, List.take_append_drop]
 refine ⟨(l.take q).map fileRow ++ ((l.drop (q + 1)).map fileRow ++ [fileRow f]), ?_, ?_⟩
 ·conv => rhs; rw [e0]
  rw [List.map_append, List.map_cons, List.append_assoc]
  exact (List.Sublist.refl _).append ((List.Sublist.refl _).cons _)
 rw [List.set_eq_take_append_cons_drop, if_pos h, List.map_append, List.map_cons]
 exact List.Perm.append_left _ (List.perm_append_singleton _ _).symm
section
variable {cx : Cx} {Q : Exit → Env → St → Prop} {env : Env} {S : St} {ops : Array Oper} {l' : List Oper} {K : Env → St → Prop}
theorem AW.setRow {code : Code} {a b c d : Ent} {l : List FileR} {q : Nat} (f : FileR) (hq : q < l.length) (hS : S = (a :: b :: c :: d :: l.map fileRow) ++ [fileRow f]) (h : AW cx code Q env (a :: b :: c :: d :: (l.set q f).map fileRow)) : AW cx code Q env S := by
 subst hS
 obtain ⟨S', h1, h2⟩ := set_rows hq f
 exact AW.drop (S' := a :: b :: c :: d :: S') ((((h1.cons_cons d).cons_cons c).cons_cons b).cons_cons a) (AW.perm ((((h2.cons d).cons c).cons b).cons a) h)
end
theorem PB.opn_set {n j : Nat} {p : PW} {d : Desc} (h : PB n p) (hd : d.place ≤ n) : PB n { p with opn := p.opn.set j d } :=
 ⟨by show (p.opn.set j d).length = 19; rw [List.length_set]; exact h.opn, h.tr, h.txt, h.fl, fun x hx => by
  rcases List.mem_or_eq_of_mem_set hx with hx | rfl
  ·exact h.pl x hx
  ·exact hd, h.sin, h.nf⟩
end Go.Proofs.Ytlfklgganokgdaa.V

namespace Go.Proofs.Ytlfklgganokgdaa.V
open Go Go.RowKit
def wfP (name : Nm) (s : List UInt8) (p : PW) : PW := if openV name 577 p < 0 then p else closeP (openV name 577 p) (writeP (openV name 577 p) s (openP name 577 p))
def DWr (name : Nm) (s : List UInt8) (p p' : PW) : Prop := ∃ p1, DOpen name 577 p p1 ∧ p' = if openV name 577 p < 0 then p1 else closeP (openV name 577 p) (writeP (openV name 577 p) s p1)
theorem PB.mono {n m : Nat} {p : PW} (h : PB n p) (hm : n ≤ m) : PB m p := ⟨h.opn, Nat.le_trans h.tr hm, fun e he => Nat.le_trans (h.txt e he) hm, fun f hf => Nat.le_trans (h.fl f hf) hm, fun d hd => Nat.le_trans (h.pl d hd) hm, Nat.le_trans h.sin hm, Nat.le_trans h.nf hm⟩
theorem PB.close {n : Nat} {p : PW} (h : PB n p) (fd : Int) : PB n (closeP fd p) := by
 unfold closeP
 split
 ·exact h
 exact h.opn_set (Nat.zero_le n)
theorem PB.open0 {n : Nat} {p : PW} (h : PB n p) (name : Nm) (flags : Int) (hf : ¬ flags = 577) : PB n (openP name flags p) := by
 unfold openP
 split
 ·exact h
 exact h.opn_set (Nat.zero_le n)
theorem putP_fl {name : Nm} {b : List UInt8} {n : Nat} {l : Fl} (h : ∀ f ∈ l, f.2.length ≤ n) (hb : b.length ≤ n) : ∀ f ∈ putP name b l, f.2.length ≤ n := by
 intro f hf
 induction l with
 | nil => rw [putP] at hf; rw [List.mem_singleton.1 hf]; exact hb
 | cons x r ih =>
  rw [putP] at hf
  split at hf
  ·rcases List.mem_cons.1 hf with rfl | hf
   ·exact hb
   ·exact h f (List.mem_cons_of_mem _ hf)
  ·rcases List.mem_cons.1 hf with rfl | hf
   ·exact h _ (List.mem_cons_self ..)
   ·exact ih (fun g hg => h g (List.mem_cons_of_mem _ hg)) hf
theorem putP_ln {name : Nm} {b : List UInt8} : ∀ {l : Fl}, (putP name b l).length ≤ l.length + 1
 | [] => by simp [putP]
 | x :: r => by
  rw [putP]
  split
  ·simp
  ·have := putP_ln (name := name) (b := b) (l := r)
   simp only [List.length_cons]
   omega
theorem PB.opened {n : Nat} {p : PW} (h : PB n p) (name : Nm) : PB (n + 1) (openP name 577 p) := by
 unfold openP
 split
 ·exact h.mono (by omega)
 rw [if_pos rfl]
 refine ⟨?_, ?_, fun e he => ?_, putP_fl (fun f hf => Nat.le_trans (h.fl f hf) (by omega)) (Nat.zero_le _), fun d hd => ?_, Nat.le_trans h.sin (by omega), ?_⟩
 ·show (p.opn.set _ _).length = 19
  rw [List.length_set]
  exact h.opn
 ·show (p.trace ++ [_]).length ≤ n + 1
  rw [List.length_append]
  have := h.tr
  simp only [List.length_cons, List.length_nil]
  omega
 ·rcases List.mem_append.1 he with he | he
  ·have := h.txt e he; omega
  rw [List.mem_singleton.1 he]; exact Nat.zero_le _
 ·rcases List.mem_or_eq_of_mem_set hd with hd | rfl
  ·have := h.pl d hd; omega
  exact Nat.zero_le _
 have := putP_ln (name := name) (b := []) (l := p.files)
 have := h.nf
 show (putP name [] p.files).length ≤ n + 1
 omega
theorem PB.read {n : Nat} {p : PW} (h : PB n p) (fd N : Int) : PB n (readP fd N p) := by
 unfold readP
 split
 ·exact ⟨h.opn, h.tr, h.txt, h.fl, h.pl, by simp only [List.length_drop]; have := h.sin; omega, h.nf⟩
 split
 ·rename_i hk
  by_cases hin : fd < 0 ∨ 19 ≤ fd
  ·unfold kindP at hk
   rw [if_pos hin] at hk
   exact absurd hk (by decide)
  have hjl : fd.toNat < p.opn.length := by have := h.opn; omega
  have hpj := h.pl (p.opn.getD fd.toNat default) (getD_mem' hjl)
  -- what is read lies in the file
  have hle : (((getP (p.opn.getD fd.toNat default).name p.files).getD []).drop (p.opn.getD fd.toNat default).place).length ≤ n - (p.opn.getD fd.toNat default).place := by
   rw [List.length_drop]
   cases e : getP (p.opn.getD fd.toNat default).name p.files with
   | none => simp
   | some b =>
    have := h.fl _ (getP_mem e)
    simp only [Option.getD_some]
    simp only at this
    omega
  refine h.opn_set ?_
  show (p.opn.getD fd.toNat default).place + _ ≤ n
  rw [List.length_take]
  omega
 exact h
theorem sayF_pb {n : Nat} {k : Int} {name text : List UInt8} {l : List Evt} (h1 : l.length ≤ n) (h2 : ∀ e ∈ l, e.text.length ≤ n) : (sayF k name text l).length ≤ n + 1 + text.length ∧ ∀ e ∈ sayF k name text l, e.text.length ≤ n + 1 + text.length := by
 unfold sayF
 split
 ·exact ⟨by omega, fun e he => by have := h2 e he; omega⟩
 split
 ·rename_i hc
  refine ⟨by rw [List.length_set]; omega, fun e he => ?_⟩
  rcases List.mem_or_eq_of_mem_set he with he | rfl
  ·have := h2 e he; omega
  have := h2 _ (last_mem hc.1)
  simp only [List.length_append]; omega
 refine ⟨by simp; omega, fun e he => ?_⟩
 rcases List.mem_append.1 he with he | he
 ·have := h2 e he; omega
 rcases List.mem_singleton.1 he with rfl
 simp only; omega
theorem PB.write {n : Nat} {p : PW} (h : PB n p) (fd : Int) (s : List UInt8) : PB (n + 1 + s.length) (writeP fd s p) := by
 unfold writeP
 split
 ·have := sayF_pb (k := 1) (name := []) (text := s) h.tr h.txt
  exact ⟨h.opn, this.1, this.2, fun f hf => by have := h.fl f hf; omega, fun d hd => by have := h.pl d hd; omega, by have := h.sin; show p.stdin.length ≤ _; omega, by have := h.nf; show p.files.length ≤ _; omega⟩
 split
 ·have := sayF_pb (k := 2) (name := []) (text := s) h.tr h.txt
  exact ⟨h.opn, this.1, this.2, fun f hf => by have := h.fl f hf; omega, fun d hd => by have := h.pl d hd; omega, by have := h.sin; show p.stdin.length ≤ _; omega, by have := h.nf; show p.files.length ≤ _; omega⟩
 split
 ·rename_i hk
  split
  ·exact h.mono (by omega)
  by_cases hin : fd < 0 ∨ 19 ≤ fd
  ·unfold kindP at hk
   rw [if_pos hin] at hk
   exact absurd hk (by decide)
  have hjl : fd.toNat < p.opn.length := by have := h.opn; omega
  have hpj := h.pl (p.opn.getD fd.toNat default) (getD_mem' hjl)
  have ht := sayF_pb (k := 3) (name := (p.opn.getD fd.toNat default).name) (text := s) h.tr h.txt
  have hwl := writeAt_len ((getP (p.opn.getD fd.toNat default).name p.files).getD []) (p.opn.getD fd.toNat default).place s
  have hg : ((getP (p.opn.getD fd.toNat default).name p.files).getD []).length ≤ n := by
   cases e : getP (p.opn.getD fd.toNat default).name p.files with
   | none => exact Nat.zero_le _
   | some b => exact h.fl _ (getP_mem e)
  refine ⟨by show (p.opn.set _ _).length = 19; rw [List.length_set]; exact h.opn, ht.1, ht.2, putP_fl (fun f hf => by have := h.fl f hf; omega) (by rw [hwl]; omega), fun d hd => ?_, by have := h.sin; show p.stdin.length ≤ _; omega, ?_⟩
  ·rcases List.mem_or_eq_of_mem_set hd with hd | rfl
   ·have := h.pl d hd; omega
   show _ + s.length ≤ _; omega
  have := putP_ln (name := (p.opn.getD fd.toNat default).name) (b := writeAt ((getP (p.opn.getD fd.toNat default).name p.files).getD []) (p.opn.getD fd.toNat default).place s) (l := p.files)
  have := h.nf
  show (putP _ _ p.files).length ≤ _
  omega
 exact h.mono (by omega)
theorem Side.wf {r d d' : PW} {name : Nm} {s : List UInt8} (h : Side r d) (hn : Named r) (hw : DWr name s d d') : Side (wfP name s r) d' := by
 obtain ⟨d1, h1, rfl⟩ := hw
 have hs := h.openD h1
 unfold wfP
 rw [h.openV]
 by_cases hv : Go.Proofs.Ytlfklgganokgdaa.V.openV name 577 r < 0
 ·rw [if_pos hv, if_pos hv]
  unfold openP at hs
  rw [if_pos hv] at hs
  exact hs
 rw [if_neg hv, if_neg hv]
 exact (hs.write (named_open hn name 577) _ s).close _
theorem named_wf {p : PW} (h : Named p) (name : Nm) (s : List UInt8) : Named (wfP name s p) := by
 unfold wfP
 split
 ·exact h
 exact named_close (named_write (named_open h name 577) _ s) _
theorem PB.wf {n : Nat} {p : PW} (h : PB n p) (name : Nm) (s : List UInt8) : PB (n + 2 + s.length) (wfP name s p) := by
 unfold wfP
 split
 ·exact h.mono (by omega)
 exact (((h.opened name).write _ s).close _).mono (by omega)
end Go.Proofs.Ytlfklgganokgdaa.V

namespace Go.Proofs.Ytlfklgganokgdaa.V
open Go Go.RowKit
theorem fits_eq (s : List UInt8) : fitsB s = ((decide (1 ≤ (s.length : Int)) && decide ((s.length : Int) ≤ 255)) && !badN s) := by
 unfold fitsB
 have h1 : (!decide (s = [])) = decide (1 ≤ (s.length : Int)) := by
  cases s with
  | nil => rfl
  | cons a r =>
   have : (1 : Int) ≤ ((a :: r).length : Int) := by simp only [List.length_cons]; omega
   rw [decide_eq_true this]
   simp
 have h2 : decide (Lib.indexByte s 0 < 0) = !badN s := by
  have h := idx_bad s
  cases hb : badN s
  ·rw [hb] at h
   have : Lib.indexByte s 0 < 0 := by
    rcases Int.lt_or_le (Lib.indexByte s 0) 0 with q | q
    ·exact q
    ·exact absurd (h.1 q) (by decide)
   rw [decide_eq_true this]; rfl
  ·rw [hb] at h
   have : ¬ Lib.indexByte s 0 < 0 := by have := h.2 rfl; omega
   rw [decide_eq_false this]; rfl
 rw [h1, h2]
structure NI (p fs : Fl) : Prop where
 srt : Srt fs
 perm : p.Perm fs
theorem NI.nil : NI (nF []) [] := ⟨List.Pairwise.nil, List.Perm.refl _⟩
theorem any_none {name : Nm} {l : Fl} : (l.any fun y => decide (y.1 = name)) = (getP name l).isSome := by
 induction l with
 | nil => rfl
 | cons x r ih =>
  rw [List.any_cons, getP, ih]
  by_cases h : x.1 = name <;> simp [h]
theorem nF_len (l : Fl) (j : Nat) (hj : j ≤ l.length) : (nF (l.take j)).length ≤ j := by
 induction j with
 | zero => simp [nF]
 | succ j ih =>
  have h1 := ih (by omega)
  rw [nF_succ (by omega), stepN]
  split
  ·rw [List.length_append]
   simp only [List.length_cons, List.length_nil]
   omega
  ·omega
end Go.Proofs.Ytlfklgganokgdaa.V

namespace Go.Proofs.Ytlfklgganokgdaa.V
open Go Go.RowKit
def rdG (all : List UInt8) (g : Nat) (n : Int) : List UInt8 := (all.drop g).take n.toNat
theorem rdG_len (all : List UInt8) (g : Nat) (n : Int) : (rdG all g n).length = min n.toNat (all.length - g) := by simp [rdG]
theorem take_mn {l : List UInt8} {N : Nat} : (l.drop 0).take (min N l.length - 0) = l.take N := by
 rw [Nat.sub_zero, List.drop_zero]
 rcases Nat.le_total N l.length with h | h
 ·rw [Nat.min_eq_left h]
 rw [Nat.min_eq_right h, List.take_length, List.take_of_length_le h]
theorem drop_tl {l : List UInt8} {N : Nat} : (l.drop (l.take N).length).take (l.length - (l.take N).length) = l.drop N := by
 rw [List.take_of_length_le (by rw [List.length_drop]; exact Nat.le_refl _), List.length_take]
 rcases Nat.le_total N l.length with h | h
 ·rw [Nat.min_eq_left h]
 rw [Nat.min_eq_right h, List.drop_length, List.drop_of_length_le h]
end Go.Proofs.Ytlfklgganokgdaa.V

namespace Go.Proofs.Ytlfklgganokgdaa.V
open Go Go.RowKit

set_option maxHeartbeats 400000 in
theorem at29B (b : Nat) (fd : Int) (hfd : fd < 0 ∨ 19 ≤ fd) :
    ACalls Try.prog 78 [wp b, .v (.int .i64 fd)] [] fun t S => ∃ b', t = .v (.pointer (some ⟨b', 0, none⟩)) ∧ S = [.box b' 67 (descCells zd)] := by
 refine ACalls.intro Try.func78 rfl Try.ntmps78 nB rfl fun X w0 => ?_
 refine ra ?_
 refine AW.seq ?_
 refine rs (ym ?_)
 refine Y1 (Yv.eqlNilP rfl pn_34 eV) ?_
 refine ym ?_
 refine gF (Yv.move rfl eV) ?_
 refine gF (Yv.lss rfl (Eg rfl rfl id) eV) ?_
 refine Y1 (Yv.pickOr (t := .const (.bool true)) rfl eV (Eg rfl rfl id)) ?_
 refine ym ?_
 refine gF (Yv.move rfl eV) ?_
 refine gF (Yv.geq rfl (Eg rfl rfl id) eV) ?_
 refine Y1 (Yv.pickOr (t := .const (.bool true)) rfl eV (Eg rfl rfl id)) (nl ?_)
 refine AW.cond rfl (fun h0t => ?_) (fun h0f => ?_)
 ·
  refine rs (Y1 (Yv.buildS rfl sh_67 evp0 (fun _ => rfl)) ?_)
  refine AWL.boxOp rfl rfl (B rfl) rfl (E rfl rfl) rfl (fun b16 => ?_)
  refine ya ?_
  refine AW.ret (retI (.tmp rfl .nil) ?_)
  exact ⟨_, rfl, rfl⟩
 simp only [Bool.or_eq_true, Bool.and_eq_true, Bool.or_eq_false_iff, Bool.and_eq_false_iff, Bool.not_eq_true', Bool.not_eq_false', decide_eq_true_eq, decide_eq_false_iff_not, Decidable.not_not] at h0f
 exfalso
 omega

set_option maxHeartbeats 400000 in
theorem SysClose18B (b m : Nat) (ws : WS) (fd : Int) (hfd : fd < 0 ∨ 19 ≤ fd) :
    ACalls Try.prog 69 [wp b, .v (.int .i64 fd)] (WSt b m ws) (fun t S => t = .v (.int .i64 (-9)) ∧ S = WSt b m ws) := by
 refine ACalls.intro Try.func69 rfl Try.ntmps69 nB rfl fun X w0 => ?_
 refine ra ?_
 refine rs (ym ?_)
 refine ym ?_
 refine C1 rfl ce_78 (E rfl rfl) (evsC (E rfl rfl) (evsC (E rfl rfl) evs0)) (S1 := []) (S2 := _) rfl (at29B b fd hfd) ?_
 rintro t8 S8 ⟨b', rfl, rfl⟩
 refine ya ?_
 refine AW.seq ?_
 refine rs (ym ?_)
 refine Y1 (Yv.nilChk rfl eV) ?_
 refine yf fo_67_0 ?_
 refine yl ag_3 0 ?_
 refine Y1 (Yv.eql rfl eV eV) (nl ?_)
 refine AW.dropAt 0 ?_
 refine AW.cond rfl (fun h0t => ?_) (fun h0f => ?_)
 ·
  try replace h0t := odt h0t
  refine ra ?_
  refine AW.ret (retI (.tmp rfl .nil) ?_)
  exact ⟨rfl, rfl⟩
 try replace h0f := odf h0f
 exact absurd rfl h0f

set_option maxHeartbeats 400000 in
theorem SysRead20B (b m : Nat) (ws : WS) (fd : Int) (hfd : fd < 0 ∨ 19 ≤ fd) (k : Int) :
    ACalls Try.prog 75 [wp b, .v (.int .i64 fd), .v (.int .u64 k)] (WSt b m ws) (fun t S => t = .tup [sv [], .v (.int .i64 (-9))] ∧ S = WSt b m ws) := by
 refine ACalls.intro Try.func75 rfl Try.ntmps75 nB rfl fun X w0 => ?_
 refine rs (Y1 (Yv.assign rfl eV) ?_)
 refine ya ?_
 refine rs (ym ?_)
 refine ym ?_
 refine C1 rfl ce_78 (E rfl rfl) (evsC (E rfl rfl) (evsC (E rfl rfl) evs0)) (S1 := []) (S2 := _) rfl (at29B b fd hfd) ?_
 rintro t13 S13 ⟨b', rfl, rfl⟩
 refine ya ?_
 refine AW.seq ?_
 refine rs (ym ?_)
 refine Y1 (Yv.nilChk rfl eV) ?_
 refine yf fo_67_0 ?_
 refine yl ag_3 0 (nl ?_)
 refine AW.dropAt 0 ?_
 refine AW.block ?_
 refine rs (Y1 (Yv.eql rfl eV eV) ?_)
 refine ya ?_
 refine AW.cond rfl (fun h0t => ?_) (fun h0f => ?_)
 ·
  try replace h0t := odt h0t
  cases h0t
 try replace h0f := odf h0f
 refine rs (Y1 (Yv.eql rfl eV eV) ?_)
 refine ya ?_
 refine AW.cond rfl (fun h1t => ?_) (fun h1f => ?_)
 ·
  try replace h1t := odt h1t
  cases h1t
 try replace h1f := odf h1f
 refine AW.skip ?_
 refine rs (Y1 (Yv.assign rfl eV) ?_)
 refine ya ?_
 refine AW.ret (retI (.tmp rfl (.tmp rfl .nil)) ?_)
 exact ⟨rfl, rfl⟩

set_option maxHeartbeats 400000 in
theorem SysWrite13B (b m : Nat) (ws : WS) (fd : Int) (hfd : fd < 0 ∨ 19 ≤ fd) (s : List UInt8) :
    ACalls Try.prog 76 [wp b, .v (.int .i64 fd), sv s] (WSt b m ws) (fun t S => t = .v (.int .i64 (-9)) ∧ S = WSt b m ws) := by
 refine ACalls.intro Try.func76 rfl Try.ntmps76 nB rfl fun X w0 => ?_
 refine ra ?_
 refine rs (ym ?_)
 refine ym ?_
 refine C1 rfl ce_78 (E rfl rfl) (evsC (E rfl rfl) (evsC (E rfl rfl) evs0)) (S1 := []) (S2 := _) rfl (at29B b fd hfd) ?_
 rintro t12 S12 ⟨b', rfl, rfl⟩
 refine ya ?_
 refine AW.seq ?_
 refine rs (ym ?_)
 refine Y1 (Yv.nilChk rfl eV) ?_
 refine yf fo_67_0 ?_
 refine yl ag_3 0 (nl ?_)
 refine AW.dropAt 0 ?_
 refine AW.block ?_
 refine rs (Y1 (Yv.eql rfl eV eV) ?_)
 refine ya ?_
 refine AW.cond rfl (fun h0t => ?_) (fun h0f => ?_)
 ·
  try replace h0t := odt h0t
  cases h0t
 try replace h0f := odf h0f
 refine rs (Y1 (Yv.eql rfl eV eV) ?_)
 refine ya ?_
 refine AW.cond rfl (fun h1t => ?_) (fun h1f => ?_)
 ·
  try replace h1t := odt h1t
  cases h1t
 try replace h1f := odf h1f
 refine rs (Y1 (Yv.eql rfl eV eV) ?_)
 refine ya ?_
 refine AW.cond rfl (fun h2t => ?_) (fun h2f => ?_)
 ·
  try replace h2t := odt h2t
  cases h2t
 try replace h2f := odf h2f
 refine ra ?_
 refine AW.ret (retI (.tmp rfl .nil) ?_)
 exact ⟨rfl, rfl⟩

set_option maxHeartbeats 400000 in
theorem SysWrite13_0 (b m : Nat) (ws : WS) (j n : Nat) (hj : j < 19) (hw : WB n ws) (hk : ¬ (ws.opn.getD j default).kind = 2 ∧ ¬ (ws.opn.getD j default).kind = 3 ∧ ¬ (ws.opn.getD j default).kind = 5) (s : List UInt8) :
    ACalls Try.prog 76 [wp b, .v (.int .i64 (j : Int)), sv s] (WSt b m ws) (fun t S => t = .v (.int .i64 (-9)) ∧ S = WSt b m ws) := by
 obtain ⟨ho, htr, htx, hfl, hpl, hsi⟩ := hw
 refine ACalls.intro Try.func76 rfl Try.ntmps76 nB rfl fun X w0 => ?_
 refine ra ?_
 refine rs (ym ?_)
 refine ym ?_
 refine AWL.callP rfl rfl (B rfl) rfl ce_78 (E rfl rfl) (evsC (E rfl rfl) (evsC (E rfl rfl) evs0)) (at29 b j hj) (fun t S h => h) ?_
 refine ya ?_
 refine AW.seq ?_
 refine rs (ym ?_)
 refine Y1 (Yv.nilChk rfl eV) ?_
 refine yf fo_67_0 ?_
 refine Y1 (Yv.loadBox rfl ag_3 (i := 0) rfl eV (kind_at (by omega))) (nl ?_)
 refine AW.block ?_
 refine rs (Y1 (Yv.eql rfl eV eV) ?_)
 refine ya ?_
 refine AW.cond rfl (fun h0t => ?_) (fun h0f => ?_)
 ·
  try replace h0t := odt h0t
  exact absurd h0t hk.1
 try replace h0f := odf h0f
 refine rs (Y1 (Yv.eql rfl eV eV) ?_)
 refine ya ?_
 refine AW.cond rfl (fun h1t => ?_) (fun h1f => ?_)
 ·
  try replace h1t := odt h1t
  exact absurd h1t hk.2.1
 try replace h1f := odf h1f
 refine rs (Y1 (Yv.eql rfl eV eV) ?_)
 refine ya ?_
 refine AW.cond rfl (fun h2t => ?_) (fun h2f => ?_)
 ·
  try replace h2t := odt h2t
  exact absurd h2t hk.2.2
 try replace h2f := odf h2f
 refine ra ?_
 refine AW.ret (retI (.tmp rfl .nil) ?_)
 exact ⟨rfl, rfl⟩

set_option maxHeartbeats 400000 in
theorem SysRead20_0 (b m : Nat) (ws : WS) (j n : Nat) (hj : j < 19) (hw : WB n ws) (hk : ¬ (ws.opn.getD j default).kind = 1 ∧ ¬ (ws.opn.getD j default).kind = 4) (k : Int) :
    ACalls Try.prog 75 [wp b, .v (.int .i64 (j : Int)), .v (.int .u64 k)] (WSt b m ws) (fun t S => t = .tup [sv [], .v (.int .i64 (-9))] ∧ S = WSt b m ws) := by
 obtain ⟨ho, htr, htx, hfl, hpl, hsi⟩ := hw
 refine ACalls.intro Try.func75 rfl Try.ntmps75 nB rfl fun X w0 => ?_
 refine rs (Y1 (Yv.assign rfl eV) ?_)
 refine ya ?_
 refine rs (ym ?_)
 refine ym ?_
 refine AWL.callP rfl rfl (B rfl) rfl ce_78 (E rfl rfl) (evsC (E rfl rfl) (evsC (E rfl rfl) evs0)) (at29 b j hj) (fun t S h => h) ?_
 refine ya ?_
 refine AW.seq ?_
 refine rs (ym ?_)
 refine Y1 (Yv.nilChk rfl eV) ?_
 refine yf fo_67_0 ?_
 refine Y1 (Yv.loadBox rfl ag_3 (i := 0) rfl eV (kind_at (by omega))) (nl ?_)
 refine AW.block ?_
 refine rs (Y1 (Yv.eql rfl eV eV) ?_)
 refine ya ?_
 refine AW.cond rfl (fun h0t => ?_) (fun h0f => ?_)
 ·
  try replace h0t := odt h0t
  exact absurd h0t hk.1
 try replace h0f := odf h0f
 refine rs (Y1 (Yv.eql rfl eV eV) ?_)
 refine ya ?_
 refine AW.cond rfl (fun h1t => ?_) (fun h1f => ?_)
 ·
  try replace h1t := odt h1t
  exact absurd h1t hk.2
 try replace h1f := odf h1f
 refine AW.skip ?_
 refine rs (Y1 (Yv.assign rfl eV) ?_)
 refine ya ?_
 refine AW.ret (retI (.tmp rfl (.tmp rfl .nil)) ?_)
 exact ⟨rfl, rfl⟩

set_option maxHeartbeats 400000 in
theorem SysRead20_1 (b m : Nat) (ws : WS) (j n : Nat) (hj : j < 19) (hw : WB n ws) (hn : n ≤ 549755813888) (hk : (ws.opn.getD j default).kind = 1) (N : Nat) (hN : N ≤ 18446744073709551615) :
    ACalls Try.prog 75 [wp b, .v (.int .i64 (j : Int)), .v (.int .u64 (N : Int))] (WSt b m ws) (fun t S => t = .tup [sv (ws.stdin.take N), .v (.int .i64 ((ws.stdin.take N).length : Int))] ∧ S = WSt b m { ws with stdin := ws.stdin.drop N }) := by
 obtain ⟨ho, htr, htx, hfl, hpl, hsi⟩ := hw
 refine ACalls.intro Try.func75 rfl Try.ntmps75 nB rfl fun X w0 => ?_
 refine rs (Y1 (Yv.assign rfl eV) ?_)
 refine ya ?_
 refine rs (ym ?_)
 refine ym ?_
 refine AWL.callP rfl rfl (B rfl) rfl ce_78 (E rfl rfl) (evsC (E rfl rfl) (evsC (E rfl rfl) evs0)) (at29 b j hj) (fun t S h => h) ?_
 refine ya ?_
 refine AW.seq ?_
 refine rs (ym ?_)
 refine Y1 (Yv.nilChk rfl eV) ?_
 refine yf fo_67_0 ?_
 refine Y1 (Yv.loadBox rfl ag_3 (i := 0) rfl eV (kind_at (by omega))) (nl ?_)
 refine AW.block ?_
 refine rs (Y1 (Yv.eql rfl eV eV) ?_)
 refine ya ?_
 refine AW.cond rfl (fun h0t => ?_) (fun h0f => ?_)
 ·
  try replace h0t := odt h0t
  refine AW.rseqQ rfl (by kernel_rfl) ?_
  refine qm ?_
  refine Q1 (Yv.nilChk rfl eV) ?_
  refine qf fo_70_1 ?_
  refine ql ag_9 0 ?_
  refine qm ?_
  refine qm ?_
  refine Q1 (Yv.nilChk rfl eV) ?_
  refine qf fo_70_1 ?_
  refine ql ag_9 0 ?_
  refine Q1 (Yv.lenL rfl st_9 eV) ?_
  refine Q1 (Yv.convN_u64 rfl Try.underlying3 kd_39 eV (fun hg => by omega)) ?_
  refine Q1 (Yv.min2 rfl eV eV) ?_
  have e11 : (if (ws.stdin.length : Int) < (N : Int) then (ws.stdin.length : Int) else (N : Int)) = (((min N ws.stdin.length) : Nat) : Int) := by split <;> omega
  rw [e11]
  refine Q1 (Yv.sliceL rfl st_9 eV Bound.none_ (Bound.some_ eV (fun hg => rfl)) (fun hg => ⟨by omega, by omega⟩)) ?_
  rw [take_mn]
  have htl : (ws.stdin.take N).length ≤ ws.stdin.length := by rw [List.length_take]; omega
  refine Q1 (Yv.assign rfl eV) ?_
  refine AWQ.nil ?_
  refine rs (ym ?_)
  refine ym ?_
  refine Y1 (Yv.nilChk rfl eV) ?_
  refine yf fo_70_1 ?_
  refine yl ag_9 0 ?_
  refine ym ?_
  refine Y1 (Yv.lenL rfl st_9 eV) ?_
  refine Y1 (Yv.sliceL rfl st_9 eV (Bound.some_ eV (fun hg => rfl)) Bound.none_ (fun hg => ⟨by omega, by omega⟩)) ?_
  refine Y1 (Yv.nilChk rfl eV) ?_
  refine yf fo_70_1 ?_
  refine AWL.storeBox (i := 0) rfl rfl rfl ag_9 rfl (E rfl rfl) (E rfl rfl) rfl rfl nB (nl ?_)
  refine rs (ym ?_)
  refine ym ?_
  refine Y1 (Yv.lenL rfl st_9 eV) ?_
  refine Y1 (Yv.assign rfl eV) ?_
  refine ya ?_
  refine AW.ret (retI (.tmp rfl (.tmp rfl .nil)) ?_)
  exact ⟨rfl, congrArg (fun z => WSt b m { ws with stdin := z }) drop_tl⟩
 try replace h0f := odf h0f
 exact absurd hk h0f

set_option maxHeartbeats 1000000 in
theorem SysRead20G (b m : Nat) (ws : WS) (j q : Nat) (k : Int) (n : Nat) (hj : j < 19) (hk : (ws.opn.getD j default).kind = 4) (hq : q < ws.files.length) (hu : Uniq ws.files) (hnm : (ws.opn.getD j default).name = (ws.files.getD q default).name) (hw : WB n ws) (hn : n ≤ 549755813888) (h0 : 0 ≤ k) (h1 : k ≤ 18446744073709551615) :
    ACalls Try.prog 75 [wp b, .v (.int .i64 (j : Int)), .v (.int .u64 k)] (WSt b m ws) (fun t S => t = .tup [sv (rdG (ws.files.getD q default).bytes (ws.opn.getD j default).place k), .v (.int .i64 ((rdG (ws.files.getD q default).bytes (ws.opn.getD j default).place k).length : Int))] ∧ S = WSt b m { ws with opn := ws.opn.set j { (ws.opn.getD j default) with place := (ws.opn.getD j default).place + (rdG (ws.files.getD q default).bytes (ws.opn.getD j default).place k).length } }) := by
 obtain ⟨ho, htr, htx, hfl, hpl, hsi⟩ := hw
 have hfq : (ws.files.getD q default).bytes.length ≤ n := hfl _ (getD_mem' hq)
 have hrl := rdG_len (ws.files.getD q default).bytes (ws.opn.getD j default).place k
 have hpq : (ws.opn.getD j default).place ≤ n := hpl _ (getD_mem' (by omega))
 refine ACalls.intro Try.func75 rfl Try.ntmps75 nB rfl fun X w0 => ?_
 refine rs (Y1 (Yv.assign rfl eV) ?_)
 refine ya ?_
 refine rs (ym ?_)
 refine ym ?_
 refine AWL.callP rfl rfl (B rfl) rfl ce_78 (E rfl rfl) (evsC (E rfl rfl) (evsC (E rfl rfl) evs0)) (at29 b j hj) (fun t S h => h) ?_
 refine ya ?_
 refine AW.seq ?_
 refine rs (ym ?_)
 refine Y1 (Yv.nilChk rfl eV) ?_
 refine yf fo_67_0 ?_
 refine Y1 (Yv.loadBox rfl ag_3 (i := 0) rfl eV (kind_at (by omega))) (nl ?_)
 refine AW.block ?_
 refine rs (Y1 (Yv.eql rfl eV eV) ?_)
 refine ya ?_
 refine AW.cond rfl (fun h0t => ?_) (fun h0f => ?_)
 ·
  try replace h0t := odt h0t
  omega
 try replace h0f := odf h0f
 refine rs (Y1 (Yv.eql rfl eV eV) ?_)
 refine ya ?_
 refine AW.cond rfl (fun h1t => ?_) (fun h1f => ?_)
 ·
  try replace h1t := odt h1t
  refine AW.rseqQ rfl (by kernel_rfl) ?_
  refine qm ?_
  refine Q1 (Yv.nilChk rfl eV) ?_
  refine qf fo_70_0 ?_
  refine ql ag_64 0 ?_
  refine qm ?_
  refine Q1 (Yv.nilChk rfl eV) ?_
  refine qf fo_67_1 ?_
  refine Q1 (Yv.loadBox rfl ag_9 (i := 0) rfl eV (name_at (by omega))) ?_
  refine Q1 (Yv.eqT (t' := .v (.slice (ws.files.getD q default).A (ws.files.getD q default).bytes.length (ws.files.getD q default).c)) (Yv.lookup1 (k := .s _) (i := 1) rfl mp_64 rfl eV eV rfl (files_good _)) (by rw [hnm, get_file hu hq]; rfl)) ?_
  refine Q1 (Yv.assign rfl eV) ?_
  refine AWQ.nil ?_
  refine rs (ym ?_)
  refine ym ?_
  refine Y1 (Yv.nilChk rfl eV) ?_
  refine yf fo_67_2 ?_
  refine Y1 (Yv.loadBox rfl ag_3 (i := 0) rfl eV (place_at (by omega))) ?_
  refine ym ?_
  refine Y1 (Yv.lenV rfl so_23 eV) ?_
  refine Y1 (Yv.min2 rfl eV eV) ?_
  have e9 : (if ((ws.files.getD q default).bytes.length : Int) < ((ws.opn.getD j default).place : Int) then ((ws.files.getD q default).bytes.length : Int) else ((ws.opn.getD j default).place : Int)) = (((min (ws.opn.getD j default).place (ws.files.getD q default).bytes.length) : Nat) : Int) := by split <;> omega
  rw [e9]
  refine Y1 (Yv.sliceRowFrom (i := q + 3) (lo := (min (ws.opn.getD j default).place (ws.files.getD q default).bytes.length)) rfl ss_23 (file_row hq) eV (Bound.some_ eV (fun _ => rfl)) (fun hg => by omega)) ?_
  refine ya ?_
  refine AW.rowLe (q + 3) (file_row hq) (fun hcap => ?_)
  refine rs (ym ?_)
  refine ym ?_
  refine ym ?_
  refine Y1 (Yv.lenV rfl so_23 eV) ?_
  refine Y1 (Yv.convN_u64 rfl Try.underlying3 kd_39 eV (fun hg => by omega)) ?_
  refine Y1 (Yv.min2 rfl eV eV) ?_
  have e10 : (if (((ws.files.getD q default).bytes.length - (min (ws.opn.getD j default).place (ws.files.getD q default).bytes.length) : Nat) : Int) < k then (((ws.files.getD q default).bytes.length - (min (ws.opn.getD j default).place (ws.files.getD q default).bytes.length) : Nat) : Int) else k) = (((rdG (ws.files.getD q default).bytes (ws.opn.getD j default).place k).length : Nat) : Int) := by rw [hrl]; split <;> omega
  rw [e10]
  refine Y1 (Yv.sliceV0 (m := (rdG (ws.files.getD q default).bytes (ws.opn.getD j default).place k).length) rfl ss_23 eV (Bound.some_ eV (fun _ => rfl)) (fun hg => by omega)) ?_
  refine ya ?_
  refine rs (ym ?_)
  refine Y1 (Yv.nilChk rfl eV) ?_
  refine yf fo_67_2 ?_
  refine Y1 (Yv.loadBox rfl ag_3 (i := 0) rfl eV (place_at (by omega))) ?_
  refine ym ?_
  refine Y1 (Yv.lenV rfl so_23 eV) ?_
  refine Y1 (Yv.addN_i64 rfl eV eV (fun hg => by omega)) ?_
  refine Y1 (Yv.nilChk rfl eV) ?_
  refine yf fo_67_2 ?_
  refine AWL.storeBox (i := 0) rfl rfl rfl ag_3 rfl (E rfl rfl) (E rfl rfl) rfl rfl (by rw [wCells_len, ho]; omega) (nl ?_)
  refine AW.eqS (wst_desc (b := b) (m := m) (ws := ws) (j := j) (by omega) 2 1 [.v (.int .i64 (((ws.opn.getD j default).place + (rdG (ws.files.getD q default).bytes (ws.opn.getD j default).place k).length : Nat) : Int))] { (ws.opn.getD j default) with place := (ws.opn.getD j default).place + (rdG (ws.files.getD q default).bytes (ws.opn.getD j default).place k).length } (by decide) rfl) ?_
  refine rs (ym ?_)
  refine Y1 (Yv.bytesStrPart (i := q + 3) (lo := (min (ws.opn.getD j default).place (ws.files.getD q default).bytes.length)) (m := (rdG (ws.files.getD q default).bytes (ws.opn.getD j default).place k).length) (n := (ws.files.getD q default).bytes.length) (s := (ws.files.getD q default).bytes) rfl by_23 st_9 (file_row hq) eV (fun hg => by omega)) ?_
  refine ym ?_
  refine Y1 (Yv.lenV rfl so_23 eV) ?_
  refine Y1 (Yv.assign rfl eV) ?_
  refine ya ?_
  refine AW.ret (retI (.tmp rfl (.tmp rfl .nil)) ?_)
  have er : ((ws.files.getD q default).bytes.drop (min (ws.opn.getD j default).place (ws.files.getD q default).bytes.length)).take (rdG (ws.files.getD q default).bytes (ws.opn.getD j default).place k).length = (rdG (ws.files.getD q default).bytes (ws.opn.getD j default).place k) := by
   rw [hrl, show (ws.files.getD q default).bytes.drop (min (ws.opn.getD j default).place (ws.files.getD q default).bytes.length) = (ws.files.getD q default).bytes.drop (ws.opn.getD j default).place from by
    rcases Nat.le_total (ws.opn.getD j default).place (ws.files.getD q default).bytes.length with h | h
    ·rw [Nat.min_eq_left h]
    ·rw [Nat.min_eq_right h, List.drop_length, List.drop_of_length_le h]]
   unfold rdG
   rcases Nat.le_total k.toNat ((ws.files.getD q default).bytes.length - (ws.opn.getD j default).place) with h | h
   ·rw [Nat.min_eq_left h]
   ·rw [Nat.min_eq_right h, List.take_of_length_le (by rw [List.length_drop]; exact Nat.le_refl _), List.take_of_length_le (by rw [List.length_drop]; exact h)]
  rw [er]
  exact ⟨rfl, rfl⟩
 try replace h1f := odf h1f
 omega

end Go.Proofs.Ytlfklgganokgdaa.V

namespace Go.Proofs.Ytlfklgganokgdaa.V
open Go Go.RowKit
structure RP (n : Nat) (p : PW) : Prop where
 pb : PB n p
 nm : Named p
 nd : (p.files.map (·.1)).Nodup
 ns : ∀ f ∈ p.files, f.1.length ≤ 255
theorem abs_names (l : List FileR) : (l.map nb).map (·.1) = l.map (·.name) := by
 rw [List.map_map]
 rfl
theorem RP.uq {n : Nat} {ws : WS} (h : RP n (absW ws)) : Uniq ws.files := by
 have := h.nd
 unfold absW at this
 simp only at this
 rw [abs_names] at this
 exact this
theorem RP.wb {n : Nat} {ws : WS} (h : RP n (absW ws)) : WB n ws := ⟨h.pb.opn, h.pb.tr, h.pb.txt, fun f hf => h.pb.fl (nb f) (List.mem_map_of_mem hf), h.pb.pl, h.pb.sin⟩
theorem hasK_get (name : List UInt8) (l : List FileR) : hasK name l = (getP name (l.map nb)).isSome := by rw [hasK_any, any_none]
theorem openV_abs (name : List UInt8) (flags : Int) (ws : WS) : openR name flags ws = openV name flags (absW ws) := by
 unfold openR openV
 have e1 : ((flags ≠ 0 ∧ flags ≠ 577) ∨ 0 ≤ Lib.indexByte name 0) = ((flags ≠ 0 ∧ flags ≠ 577) ∨ badN name = true) := by rw [propext (idx_bad name)]
 have e2 : (flags = 0 ∧ hasK name ws.files = false) = (flags = 0 ∧ getP name (absW ws).files = none) := by
  rw [hasK_get]
  show (flags = 0 ∧ (getP name (ws.files.map nb)).isSome = false) = (flags = 0 ∧ getP name (ws.files.map nb) = none)
  cases getP name (ws.files.map nb) <;> simp
 simp only [e1, e2]
 rfl
theorem putF_nb (f : FileR) : ∀ l : List FileR, (putF f l).map nb = putP f.name f.bytes (l.map nb)
 | [] => rfl
 | g :: r => by
  rw [putF, List.map_cons, putP]
  by_cases h : g.name = f.name
  ·rw [if_pos h, if_pos (show (nb g).1 = f.name from h)]
   rfl
  ·rw [if_neg h, if_neg (show ¬ (nb g).1 = f.name from h), List.map_cons, putF_nb f r]
theorem openS_abs (name : List UInt8) (flags : Int) (A : Option Addr) (c : Nat) (tA : Option Addr) (tc : Nat) (ws : WS) : absW (openS name flags A c tA tc ws) = openP name flags (absW ws) := by
 unfold openS openP
 rw [openV_abs]
 split
 ·rfl
 split
 ·unfold absW
  simp only [putF_nb]
 rfl
theorem putP_ns {name : Nm} {b : List UInt8} {l : Fl} (h : ∀ f ∈ l, f.1.length ≤ 255) (hn : name.length ≤ 255) : ∀ f ∈ putP name b l, f.1.length ≤ 255 := by
 intro f hf
 induction l with
 | nil => rw [putP] at hf; rw [List.mem_singleton.1 hf]; exact hn
 | cons x r ih =>
  rw [putP] at hf
  split at hf
  ·rcases List.mem_cons.1 hf with rfl | hf
   ·exact hn
   ·exact h f (List.mem_cons_of_mem _ hf)
  ·rcases List.mem_cons.1 hf with rfl | hf
   ·exact h _ (List.mem_cons_self ..)
   ·exact ih (fun g hg => h g (List.mem_cons_of_mem _ hg)) hf
theorem open_short {name : Nm} {flags : Int} {p : PW} (h : ¬ openV name flags p < 0) : name.length ≤ 255 := by
 rcases Nat.lt_or_ge 255 name.length with q | q
 ·exfalso
  unfold openV at h
  rw [if_pos q] at h
  exact h (by decide)
 exact q
theorem RP.of_open {n : Nat} {p : PW} (h : RP n p) (name : Nm) (flags : Int) : RP (n + 1) (openP name flags p) := by
 refine ⟨?_, named_open h.nm name flags, ?_, ?_⟩
 ·by_cases hf : flags = 577
  ·rw [hf]; exact h.pb.opened name
  exact (h.pb.open0 name flags hf).mono (by omega)
 ·unfold openP
  split
  ·exact h.nd
  split
  ·exact putP_nodup h.nd
  exact h.nd
 unfold openP
 split
 ·exact h.ns
 rename_i hv
 split
 ·exact putP_ns h.ns (open_short hv)
 exact h.ns
theorem RP.close {n : Nat} {p : PW} (h : RP n p) (fd : Int) : RP n (closeP fd p) := by
 refine ⟨h.pb.close fd, named_close h.nm fd, ?_, ?_⟩
 ·unfold closeP
  split
  ·exact h.nd
  exact h.nd
 unfold closeP
 split
 ·exact h.ns
 exact h.ns
theorem RP.read {n : Nat} {p : PW} (h : RP n p) (fd N : Int) : RP n (readP fd N p) := by
 have hf : (readP fd N p).files = p.files := by
  unfold readP
  split
  ·rfl
  split
  ·rfl
  ·rfl
 exact ⟨h.pb.read fd N, named_read h.nm fd N, by rw [hf]; exact h.nd, by rw [hf]; exact h.ns⟩
theorem RP.write {n : Nat} {p : PW} (h : RP n p) (fd : Int) (s : List UInt8) : RP (n + 1 + s.length) (writeP fd s p) := by
 refine ⟨h.pb.write fd s, named_write h.nm fd s, ?_, ?_⟩
 ·unfold writeP
  split
  ·exact h.nd
  split
  ·exact h.nd
  split
  ·split
   ·exact h.nd
   exact putP_nodup h.nd
  exact h.nd
 unfold writeP
 split
 ·exact h.ns
 split
 ·exact h.ns
 split
 ·rename_i hk
  split
  ·exact h.ns
  obtain ⟨_, _, _, hm, he⟩ := kind_in h.nm (fd := fd) (by rw [hk]; decide)
  obtain ⟨b, hb⟩ := Option.isSome_iff_exists.1 (h.nm.2 _ hm (.inr (he ▸ hk)))
  exact putP_ns h.ns (h.ns _ (getP_mem hb))
 exact h.ns
theorem RP.mono {n m : Nat} {p : PW} (h : RP n p) (hm : n ≤ m) : RP m p := ⟨h.pb.mono hm, h.nm, h.nd, h.ns⟩
theorem RP.wf {n : Nat} {p : PW} (h : RP n p) (name : Nm) (s : List UInt8) : RP (n + 2 + s.length) (wfP name s p) := by
 refine ⟨h.pb.wf name s, named_wf h.nm name s, ?_, ?_⟩
 ·unfold wfP
  split
  ·exact h.nd
  exact (((h.of_open name 577).write _ s).close _).nd
 unfold wfP
 split
 ·exact h.ns
 exact (((h.of_open name 577).write _ s).close _).ns
theorem kind_nat {p : PW} {j : Nat} (hj : j < 19) : kindP (j : Int) p = (p.opn.getD j default).kind := by
 unfold kindP
 rw [if_neg (by omega)]
 rfl
theorem kind_bad {p : PW} {fd : Int} (h : fd < 0 ∨ 19 ≤ fd) : kindP fd p = 0 := by
 unfold kindP
 rw [if_pos h]
theorem file_of {n : Nat} {ws : WS} (h : RP n (absW ws)) {j : Nat} (hj : j < 19) (hk : (ws.opn.getD j default).kind = 4 ∨ (ws.opn.getD j default).kind = 5) :
    ∃ q, q < ws.files.length ∧ (ws.opn.getD j default).name = (ws.files.getD q default).name ∧ getP (ws.opn.getD j default).name (absW ws).files = some (ws.files.getD q default).bytes ∧
     ∀ x, putP (ws.opn.getD j default).name x (absW ws).files = (absW ws).files.set q ((ws.opn.getD j default).name, x) := by
 have ho : ws.opn.length = 19 := h.pb.opn
 have hsome := h.nm.2 _ (getD_mem' (l := ws.opn) (j := j) (by omega)) hk
 obtain ⟨q, hfq, hq, hqn, hqg, hqp⟩ := (findP_get (name := (ws.opn.getD j default).name) (l := (absW ws).files)).resolve_left (fun h => by rw [h.2] at hsome; cases hsome)
 have hq' : q < ws.files.length := by
  have h := hq
  unfold absW at h
  rwa [List.length_map] at h
 have e : (absW ws).files.getD q default = nb (ws.files.getD q default) := nb_at hq'
 rw [e] at hqn hqg
 exact ⟨q, hq', hqn.symm, hqg, hqp⟩
theorem rSysClose (b m : Nat) (ws : WS) (n : Nat) (h : RP n (absW ws)) (fd : Int) : ACalls Try.prog 69 [wp b, .v (.int .i64 fd)] (WSt b m ws) (fun t S => t = .v (.int .i64 (closeV fd (absW ws))) ∧ ∃ ws', absW ws' = closeP fd (absW ws) ∧ S = WSt b m ws') := by
 by_cases hv : fd < 0 ∨ 19 ≤ fd
 ·refine (SysClose18B b m ws fd hv).mono fun t S hr => ?_
  obtain ⟨rfl, rfl⟩ := hr
  refine ⟨?_, ws, ?_, rfl⟩
  ·unfold closeV
   rw [if_pos (kind_bad hv)]
  unfold closeP
  rw [if_pos (kind_bad hv)]
 obtain ⟨j, rfl⟩ : ∃ j : Nat, fd = (j : Int) := ⟨fd.toNat, by omega⟩
 have hj : j < 19 := by omega
 refine (SysClose18 b m ws j n hj h.wb).mono fun t S hr => ?_
 obtain ⟨rfl, rfl⟩ := hr
 have hk : kindP (j : Int) (absW ws) = (ws.opn.getD j default).kind := kind_nat hj
 refine ⟨?_, _, ?_, rfl⟩
 ·unfold closeV
  rw [hk]
 unfold closeP closeF
 rw [hk]
 split <;> rfl
theorem rSysRead (b m : Nat) (ws : WS) (n : Nat) (h : RP n (absW ws)) (hn : n ≤ 549755813888) (fd : Int) (N : Nat) (hN : N ≤ 18446744073709551615) : ACalls Try.prog 75 [wp b, .v (.int .i64 fd), .v (.int .u64 (N : Int))] (WSt b m ws) (fun t S => t = .tup [sv (readV fd (N : Int) (absW ws)).1, .v (.int .i64 (readV fd (N : Int) (absW ws)).2)] ∧ ∃ ws', absW ws' = readP fd (N : Int) (absW ws) ∧ S = WSt b m ws') := by
 have bad : ∀ (fd : Int), ¬ kindP fd (absW ws) = 1 → ¬ kindP fd (absW ws) = 4 → readV fd (N : Int) (absW ws) = ([], -9) ∧ readP fd (N : Int) (absW ws) = absW ws := fun fd h1 h4 => by
  unfold readV readP
  rw [if_neg h1, if_neg h4, if_neg h1, if_neg h4]
  exact ⟨rfl, rfl⟩
 by_cases hv : fd < 0 ∨ 19 ≤ fd
 ·refine (SysRead20B b m ws fd hv (N : Int)).mono fun t S hr => ?_
  obtain ⟨rfl, rfl⟩ := hr
  have hb := bad fd (by rw [kind_bad hv]; decide) (by rw [kind_bad hv]; decide)
  rw [hb.1, hb.2]
  exact ⟨rfl, ws, rfl, rfl⟩
 obtain ⟨j, rfl⟩ : ∃ j : Nat, fd = (j : Int) := ⟨fd.toNat, by omega⟩
 have hj : j < 19 := by omega
 have hk : kindP (j : Int) (absW ws) = (ws.opn.getD j default).kind := kind_nat hj
 by_cases h1 : (ws.opn.getD j default).kind = 1
 ·refine (SysRead20_1 b m ws j n hj h.wb hn h1 N hN).mono fun t S hr => ?_
  obtain ⟨rfl, rfl⟩ := hr
  unfold readV readP
  rw [hk, if_pos h1, if_pos h1]
  exact ⟨rfl, _, rfl, rfl⟩
 by_cases h4 : (ws.opn.getD j default).kind = 4
 ·obtain ⟨q, hq, hqn, hqg, hqp⟩ := file_of h hj (.inl h4)
  refine (SysRead20G b m ws j q (N : Int) n hj h4 hq h.uq hqn h.wb hn (by omega) (by omega)).mono fun t S hr => ?_
  obtain ⟨rfl, rfl⟩ := hr
  have e : ((absW ws).opn.getD (j : Int).toNat default) = ws.opn.getD j default := rfl
  unfold readV readP
  rw [hk, if_neg h1, if_pos h4, if_neg h1, if_pos h4, e, hqg]
  exact ⟨rfl, _, rfl, rfl⟩
 refine (SysRead20_0 b m ws j n hj h.wb ⟨h1, h4⟩ (N : Int)).mono fun t S hr => ?_
 obtain ⟨rfl, rfl⟩ := hr
 have hb := bad (j : Int) (by rw [hk]; exact h1) (by rw [hk]; exact h4)
 rw [hb.1, hb.2]
 exact ⟨rfl, ws, rfl, rfl⟩
theorem rSysWrite (b m : Nat) (ws : WS) (n : Nat) (h : RP n (absW ws)) (hn : n ≤ 549755813888) (fd : Int) (s : List UInt8) (hs : s.length ≤ 549755813888) : ACalls Try.prog 76 [wp b, .v (.int .i64 fd), sv s] (WSt b m ws) (fun t S => t = .v (.int .i64 (writeV fd s (absW ws))) ∧ ∃ ws', absW ws' = writeP fd s (absW ws) ∧ S = WSt b m ws') := by
 have bad : ∀ (fd : Int), ¬ kindP fd (absW ws) = 2 → ¬ kindP fd (absW ws) = 3 → ¬ kindP fd (absW ws) = 5 → writeV fd s (absW ws) = -9 ∧ writeP fd s (absW ws) = absW ws := fun fd h2 h3 h5 => by
  unfold writeV writeP
  rw [if_neg (fun q => q.elim h2 (fun q => q.elim h3 h5)), if_neg h2, if_neg h3, if_neg h5]
  exact ⟨rfl, rfl⟩
 by_cases hv : fd < 0 ∨ 19 ≤ fd
 ·refine (SysWrite13B b m ws fd hv s).mono fun t S hr => ?_
  obtain ⟨rfl, rfl⟩ := hr
  have hb := bad fd (by rw [kind_bad hv]; decide) (by rw [kind_bad hv]; decide) (by rw [kind_bad hv]; decide)
  rw [hb.1, hb.2]
  exact ⟨rfl, ws, rfl, rfl⟩
 obtain ⟨j, rfl⟩ : ∃ j : Nat, fd = (j : Int) := ⟨fd.toNat, by omega⟩
 have hj : j < 19 := by omega
 have hk : kindP (j : Int) (absW ws) = (ws.opn.getD j default).kind := kind_nat hj
 by_cases h2 : (ws.opn.getD j default).kind = 2
 ·refine (SysWrite13_2 b m ws j s n hj h2 h.wb (by omega) (by omega)).mono fun t S hr => ?_
  obtain ⟨rfl, A, c, rfl⟩ := hr
  unfold writeV writeP
  rw [hk, if_pos (.inl h2), if_pos h2]
  exact ⟨rfl, _, rfl, rfl⟩
 by_cases h3 : (ws.opn.getD j default).kind = 3
 ·refine (SysWrite13_3 b m ws j s n hj h3 h.wb (by omega) (by omega)).mono fun t S hr => ?_
  obtain ⟨rfl, A, c, rfl⟩ := hr
  unfold writeV writeP
  rw [hk, if_pos (.inr (.inl h3)), if_neg h2, if_pos h3]
  exact ⟨rfl, _, rfl, rfl⟩
 by_cases h5 : (ws.opn.getD j default).kind = 5
 ·obtain ⟨q, hq, hqn, hqg, hqp⟩ := file_of h hj (.inr h5)
  refine (SysWrite13_5 b m ws j q s n hj h5 hq h.uq hqn h.wb hn hs).mono fun t S hr => ?_
  obtain ⟨rfl, A, c, tA, tc, rfl⟩ := hr
  have e : ((absW ws).opn.getD (j : Int).toNat default) = ws.opn.getD j default := rfl
  unfold writeV writeP
  rw [hk, if_pos (.inr (.inr h5)), if_neg h2, if_neg h3, if_pos h5, e, hqg]
  refine ⟨rfl, _, ?_, rfl⟩
  unfold wrF
  split
  ·rfl
  rw [hqp]
  unfold absW
  simp only [List.map_set]
  rw [hqn]
  rfl
 refine (SysWrite13_0 b m ws j n hj h.wb ⟨h2, h3, h5⟩ s).mono fun t S hr => ?_
 obtain ⟨rfl, rfl⟩ := hr
 have hb := bad (j : Int) (by rw [hk]; exact h2) (by rw [hk]; exact h3) (by rw [hk]; exact h5)
 rw [hb.1, hb.2]
 exact ⟨rfl, ws, rfl, rfl⟩
theorem rSysOpen (b m : Nat) (ws : WS) (n : Nat) (h : RP n (absW ws)) (hn : n ≤ 549755813888) (name : List UInt8) (flags : Int) : ACalls Try.prog 77 [wp b, sv name, .v (.int .i64 flags)] (WSt b m ws) (fun t S => t = .v (.int .i64 (openV name flags (absW ws))) ∧ ∃ ws', absW ws' = openP name flags (absW ws) ∧ S = WSt b m ws') := by
 refine (SysOpen17 b m ws name flags n h.wb hn).mono fun t S hr => ?_
 obtain ⟨rfl, A, c, tA, tc, rfl⟩ := hr
 exact ⟨by rw [openV_abs], _, openS_abs name flags A c tA tc ws, rfl⟩
end Go.Proofs.Ytlfklgganokgdaa.V

namespace Go.Proofs.Ytlfklgganokgdaa
open Go Go.RowKit
structure Pc where
 prog : Prog
 heap : Wd64
 strict : Bool
 ent : Bool
 st : Int
 ans : Wd64
 code : Int
 steps : Int
def psOf (c : Pc) (lab w pg : T) : PS := ⟨c.prog, lab, c.heap, c.strict, w, pg, c.ent, c.st, c.ans, c.code, c.steps⟩
structure Mc where
 c : Pc
 x : Fr
 bl : List Fr
 mem : Mf
 w : V.PW
def fnOf (p : Prog) (x : Fr) : Fn := p.funs.getD x.f.toNat default
def insOf (p : Prog) (x : Fr) : Ins := (fnOf p x).code.getD x.at_.toNat default
def codeOf (v : Wd64) : Int := IntKind.i64.wrap ((v &&& 255#64).toNat : Int)
def backC (c : Pc) (v : Wd64) : Pc := if c.ent = true then { c with st := 3, ans := v } else { c with st := 1, code := codeOf v }
theorem back_ps (c : Pc) (l w p : T) (v : Wd64) : backP (psOf c l w p) v = psOf (backC c v) l w p := by
 unfold backP backC psOf
 dsimp only
 split <;> rfl
def backM (m : Mc) (v : Wd64) : Mc :=
 match m.bl with
 | [] => { m with c := backC m.c v }
 | y :: r => { m with x := setD y m.x.d v, bl := r }
def argsF (x : Fr) (i : Ins) : List Wd64 := i.args.map (rA x)
def whereOf (p : Prog) (x : Fr) (l : Int) : Int := getL l (whL (fnOf p x).code)
def toN (x : Fr) (i : Ins) : Wd64 := (rA x i.a - 4194304#64) / 16#64
def badTo (p : Prog) (x : Fr) (i : Ins) : Bool :=
 ((decide (rA x i.a < 4194304#64) || !decide ((rA x i.a - 4194304#64) % 16#64 = 0#64)) || decide (wI (p.funs.length : Int) ≤ toN x i)) || !decide ((p.funs.getD (toN x i).toNat default).params = (i.args.length : Int))
def calleeF (p : Prog) (x : Fr) (i : Ins) : Option Nat :=
 if i.kind = 23 ∨ i.kind = 25 then (if badTo p x i = true then none else some (toN x i).toNat) else some i.f.toNat
def callF (strict : Bool) (x : Fr) : Fr := { x with at_ := x.at_ + 1, set := if strict = true then List.replicate x.nr false else x.set }
def jumpM (m : Mc) (i : Ins) : Option Mc :=
 match calleeF m.c.prog m.x i with
 | none => none
 | some f =>
  if i.kind = 24 ∨ i.kind = 25 then some { m with x := openFr (m.c.prog.funs.getD f default) f (argsF m.x i) m.x.d }
  else if 1048576 ≤ m.bl.length + 1 then none
  else some { m with x := openFr (m.c.prog.funs.getD f default) f (argsF m.x i) i.d, bl := callF m.c.strict m.x :: m.bl }
/-! ### system calls -/
def sysA (x : Fr) (i : Ins) (k : Nat) : Wd64 := if k < i.args.length then rA x (i.args.getD k default) else 0#64
def bytesAt (mem : Mf) (a : Wd64) (n : Nat) : List UInt8 := (List.range n).map fun (k : Nat) => mem (a + wI (k : Int))
def putsN (m : Mf) (a : Wd64) (t : List UInt8) : Nat → Mf
 | 0 => m
 | n + 1 => updM (putsN m a t n) (a + wI (n : Int)) (t.getD n 0)
inductive NmR where
 | bad : NmR
 | long : NmR
 | is : List UInt8 → NmR
def nameF (th : Wd64 → Bool) (mem : Mf) (a : Wd64) : Nat → Nat → List UInt8 → NmR
 | 0, _, _ => .long
 | n + 1, k, acc => if decide (a + wI (k : Int) < a) = true ∨ th (a + wI (k : Int)) = false then .bad else if mem (a + wI (k : Int)) = 0 then .is acc else nameF th mem a n (k + 1) (acc ++ [mem (a + wI (k : Int))])
def thereC (c : Pc) (a n : Wd64) : Bool := thereF (psData c.prog) c.heap a n
def badMem (c : Pc) (a n : Wd64) : Bool := decide (0#64 < n) && !thereC c a n
structure SysR where
 n : Int
 mem : Mf
 w : V.PW
def rdM (c : Pc) (mem : Mf) (w : V.PW) (fd : Int) (a n : Wd64) : SysR :=
 if 2147483648#64 < n then ⟨-22, mem, w⟩ else if badMem c a n = true then ⟨-14, mem, w⟩
 else ⟨(V.readV fd n.toNat w).2, putsN mem a (V.readV fd n.toNat w).1 (V.readV fd n.toNat w).1.length, V.readP fd n.toNat w⟩
def wrM (c : Pc) (mem : Mf) (w : V.PW) (fd : Int) (a n : Wd64) : SysR :=
 if 2147483648#64 < n then ⟨-22, mem, w⟩ else if badMem c a n = true then ⟨-14, mem, w⟩
 else ⟨V.writeV fd (bytesAt mem a n.toNat) w, mem, V.writeP fd (bytesAt mem a n.toNat) w⟩
def opM (c : Pc) (mem : Mf) (w : V.PW) (a : Wd64) (flags : Int) : SysR :=
 match nameF (fun z => thereC c z 1#64) mem a 256 0 [] with
 | .bad => ⟨-14, mem, w⟩
 | .long => ⟨-36, mem, w⟩
 | .is l => ⟨V.openV l flags w, mem, V.openP l flags w⟩
def clM (mem : Mf) (w : V.PW) (fd : Int) : SysR := ⟨V.closeV fd w, mem, V.closeP fd w⟩
def sysR (m : Mc) (i : Ins) : Option SysR :=
 if i.imm = 0 then some (rdM m.c m.mem m.w (sI (sysA m.x i 0)) (sysA m.x i 1) (sysA m.x i 2))
 else if i.imm = 1 then some (wrM m.c m.mem m.w (sI (sysA m.x i 0)) (sysA m.x i 1) (sysA m.x i 2))
 else if i.imm = 2 then some (opM m.c m.mem m.w (sysA m.x i 0) (sI (sysA m.x i 1)))
 else if i.imm = 3 then some (clM m.mem m.w (sI (sysA m.x i 0)))
 else none
def sysM (m : Mc) (i : Ins) : Option Mc :=
 if i.imm = 60 then some { m with c := { m.c with st := 1, code := codeOf (sysA m.x i 0) } }
 else match sysR m i with
  | none => none
  | some r => some { m with x := goF (setD m.x i.d (wI r.n)), mem := r.mem, w := r.w }
/-! ### a step -/
def adF (x : Fr) (i : Ins) : Wd64 := rA x i.a + wI i.imm
def memOk (c : Pc) (a : Wd64) (z : Int) : Bool := sizeOk z && thereC c a (wI z)
def jmpF (p : Prog) (x : Fr) (i : Ins) : Fr := { x with at_ := if i.kind = 20 ∨ holdsF i.cond (rA x i.a) (rA x i.b) = true then whereOf p x i.l else x.at_ + 1 }
def stepM (R : Int → Wd64 → Wd64 → Wd64) (m : Mc) (i : Ins) : Option Mc :=
 if okS m.x.set (readsF i) = false then none
 else if i.kind = 20 ∨ i.kind = 21 then some { m with x := jmpF m.c.prog m.x i }
 else if i.kind = 26 then some (backM m (rA m.x i.a))
 else if i.kind = 22 ∨ i.kind = 23 ∨ i.kind = 24 ∨ i.kind = 25 then jumpM m i
 else if i.kind = 18 then (if memOk m.c (adF m.x i) i.size = true then some { m with x := goF m.x, mem := putsF m.mem (adF m.x i) (rA m.x i.b) i.size.toNat } else none)
 else if i.kind = 17 then (if memOk m.c (adF m.x i) i.size = true then some { m with x := goF (setD m.x i.d (leF m.mem (adF m.x i) i.size.toNat)) } else none)
 else if i.kind = 30 then sysM m i
 else (stepA R m.c.heap m.x i).map fun x => { m with x := x }
def stuckC (m : Mc) : Mc := { m with c := { m.c with st := 2 } }
def tickC (m : Mc) : Mc := { m with c := { m.c with steps := m.c.steps + 1 } }
def skipL (L : List Ins) : Nat → Nat → Nat
 | 0, a => a
 | n + 1, a => if (L.getD a default).kind = 19 then skipL L n (a + 1) else a
def advF (p : Prog) (x : Fr) : Fr := { x with at_ := (skipL (fnOf p x).code ((fnOf p x).code.length - x.at_.toNat) x.at_.toNat : Nat) }
def advM (m : Mc) : Mc := { m with x := advF m.c.prog m.x }
def runM (R : Int → Wd64 → Wd64 → Wd64) : Nat → Mc → Mc
 | 0, m => m
 | n + 1, m => if m.c.st ≠ 0 then m else
  match stepM R (advM m) (insOf m.c.prog (advM m).x) with
  | none => stuckC (advM m)
  | some q => runM R n (tickC q)
/-! ### what is kept -/
structure FrIn (p : Prog) (x : Fr) : Prop where
 f0 : 0 ≤ x.f
 f1 : x.f.toNat < p.funs.length
 nr : x.nr = (fnOf p x).regs.toNat
 ns : x.ns = (fnOf p x).slots.toNat
 ok : FrOk x
 a0 : 0 ≤ x.at_
 a1 : x.at_.toNat < (fnOf p x).code.length
def Chain : Fr → List Fr → Prop
 | _, [] => True
 | x, y :: r => (0 ≤ x.d ∧ x.d < (y.nr : Int)) ∧ Chain y r
structure MOk (p : Prog) (m : Mc) : Prop where
 prog : m.c.prog = p
 top : FrIn p m.x
 bl : ∀ y ∈ m.bl, FrIn p y
 ch : Chain m.x m.bl
 dep : m.bl.length < 1048576
theorem FrIn.fn {p : Prog} {x : Fr} (hp : ProgOk p) (h : FrIn p x) : FnOk p (fnOf p x) := hp.fn _ (getD_mem h.f1)
theorem FrIn.ins {p : Prog} {x : Fr} (hp : ProgOk p) (h : FrIn p x) : InsOk p (fnOf p x) (cntL (fnOf p x).code) (insOf p x) := (h.fn hp).ins _ (getD_mem h.a1)
theorem FrIn.more {p : Prog} {x : Fr} (hp : ProgOk p) (h : FrIn p x) (hk : endsF (insOf p x).kind = false) : x.at_.toNat + 1 < (fnOf p x).code.length := by
 have hl := (h.fn hp).last
 have h1 := h.a1
 rcases Nat.lt_or_ge (x.at_.toNat + 1) (fnOf p x).code.length with q | q
 ·exact q
 exfalso
 unfold lastK at hl
 rw [show (fnOf p x).code.length - 1 = x.at_.toNat by omega] at hl
 unfold insOf at hk
 rw [hl] at hk; cases hk
theorem FrIn.jump {p : Prog} {x : Fr} (hp : ProgOk p) (h : FrIn p x) {j : Int} (hj : j ∈ nextF (whL (fnOf p x).code) (insOf p x) x.at_.toNat) : FrIn p { x with at_ := j } := by
 have := next_in (h.fn hp) h.a1 j hj
 exact ⟨h.f0, h.f1, h.nr, h.ns, ⟨h.ok.r, h.ok.s, h.ok.t, h.ok.h⟩, this.1, this.2⟩
theorem FrIn.go {p : Prog} {x : Fr} (hp : ProgOk p) (h : FrIn p x) (hk : endsF (insOf p x).kind = false) : FrIn p (goF x) := by
 have := h.more hp hk
 have := h.a0
 exact ⟨h.f0, h.f1, h.nr, h.ns, goF_ok h.ok, by show 0 ≤ x.at_ + 1; omega, by show (x.at_ + 1).toNat < (fnOf p x).code.length; omega⟩
theorem FrIn.setD {p : Prog} {x : Fr} (h : FrIn p x) (d : Int) (v : Wd64) : FrIn p (setD x d v) := ⟨h.f0, h.f1, h.nr, h.ns, setD_ok h.ok d v, h.a0, h.a1⟩
theorem FrIn.call {p : Prog} {x : Fr} (hp : ProgOk p) (h : FrIn p x) (hk : endsF (insOf p x).kind = false) (s : Bool) : FrIn p (callF s x) := by
 have g := h.go hp hk
 refine ⟨g.f0, g.f1, g.nr, g.ns, ⟨g.ok.r, g.ok.s, ?_, g.ok.h⟩, g.a0, g.a1⟩
 show (if s = true then List.replicate x.nr false else x.set).length = x.nr
 split
 ·exact List.length_replicate ..
 exact h.ok.t
theorem FrIn.open {p : Prog} (hp : ProgOk p) {f : Nat} (hf : f < p.funs.length) {args : List Wd64} (ha : (args.length : Int) = (p.funs.getD f default).params) (d : Int) : FrIn p (openFr (p.funs.getD f default) f args d) := by
 have h := hp.fn _ (getD_mem hf)
 have e : fnOf p (openFr (p.funs.getD f default) f args d) = p.funs.getD f default := rfl
 have h1 := h.par2
 refine ⟨by show (0 : Int) ≤ (f : Int); omega, hf, by rw [e]; rfl, by rw [e]; rfl, ⟨?_, ?_, ?_, ?_⟩, by show (0 : Int) ≤ 0; omega, by rw [e]; exact h.code⟩
 ·show (rJ args (p.funs.getD f default).regs.toNat args.length).length = (p.funs.getD f default).regs.toNat
  exact rj_len (Nat.le_refl _) (by omega)
 ·exact List.length_replicate ..
 ·show (sJ (p.funs.getD f default).regs.toNat args.length).length = (p.funs.getD f default).regs.toNat
  exact sj_len (by omega)
 exact List.length_replicate ..
theorem Chain.top {x x' : Fr} {l : List Fr} (h : Chain x l) (hd : x'.d = x.d) : Chain x' l := by
 cases l with
 | nil => trivial
 | cons y r => exact ⟨by rw [hd]; exact h.1, h.2⟩
end Go.Proofs.Ytlfklgganokgdaa

namespace Go.Proofs.Ytlfklgganokgdaa
open Go Go.RowKit

theorem pmA2 {α : Type} {a0 a1 a2 a3 a4 a5 a6 a7 a8 a9 a10 : α} {Z : List α} : (a10 :: a8 :: a1 :: a4 :: a0 :: a2 :: a3 :: a5 :: a9 :: a6 :: a7 :: Z).Perm (a0 :: a1 :: a2 :: a3 :: a4 :: a5 :: a6 :: a7 :: a8 :: a9 :: a10 :: Z) :=
 (((((((((((((((((((((((((((List.Perm.refl _).cons a7)).cons a6)).cons a9)).trans (List.perm_middle (a := a9) (l₁ := [a6, a7]) (l₂ := Z)).symm).cons a5)).cons a3)).cons a2)).cons a0)).cons a4)).trans (List.perm_middle (a := a4) (l₁ := [a0, a2, a3]) (l₂ := a5 :: a6 :: a7 :: a9 :: Z)).symm).cons a1)).trans (List.perm_middle (a := a1) (l₁ := [a0]) (l₂ := a2 :: a3 :: a4 :: a5 :: a6 :: a7 :: a9 :: Z)).symm).cons a8)).trans (List.perm_middle (a := a8) (l₁ := [a0, a1, a2, a3, a4, a5, a6, a7]) (l₂ := a9 :: Z)).symm).cons a10)).trans (List.perm_middle (a := a10) (l₁ := [a0, a1, a2, a3, a4, a5, a6, a7, a8, a9]) (l₂ := Z)).symm
theorem pmB2 {α : Type} {a0 a1 a2 a3 a4 a5 a6 a7 a8 a9 a10 : α} {Z : List α} : (a4 :: a2 :: a5 :: a6 :: a3 :: a7 :: a1 :: a8 :: a0 :: a9 :: a10 :: Z).Perm (a0 :: a1 :: a2 :: a3 :: a4 :: a5 :: a6 :: a7 :: a8 :: a9 :: a10 :: Z) :=
 ((((((((((((((((((((((((((((((List.Perm.refl _).cons a10)).cons a9)).cons a0)).cons a8)).trans (List.perm_middle (a := a8) (l₁ := [a0]) (l₂ := a9 :: a10 :: Z)).symm).cons a1)).trans (List.perm_middle (a := a1) (l₁ := [a0]) (l₂ := a8 :: a9 :: a10 :: Z)).symm).cons a7)).trans (List.perm_middle (a := a7) (l₁ := [a0, a1]) (l₂ := a8 :: a9 :: a10 :: Z)).symm).cons a3)).trans (List.perm_middle (a := a3) (l₁ := [a0, a1]) (l₂ := a7 :: a8 :: a9 :: a10 :: Z)).symm).cons a6)).trans (List.perm_middle (a := a6) (l₁ := [a0, a1, a3]) (l₂ := a7 :: a8 :: a9 :: a10 :: Z)).symm).cons a5)).trans (List.perm_middle (a := a5) (l₁ := [a0, a1, a3]) (l₂ := a6 :: a7 :: a8 :: a9 :: a10 :: Z)).symm).cons a2)).trans (List.perm_middle (a := a2) (l₁ := [a0, a1]) (l₂ := a3 :: a5 :: a6 :: a7 :: a8 :: a9 :: a10 :: Z)).symm).cons a4)).trans (List.perm_middle (a := a4) (l₁ := [a0, a1, a2, a3]) (l₂ := a5 :: a6 :: a7 :: a8 :: a9 :: a10 :: Z)).symm
theorem sub_mid {α : Type} (a b c : List α) : (a ++ c).Sublist (a ++ (b ++ c)) := (List.sublist_append_right b c).append_left a
theorem lab_at {bs : List Nat} {j : Nat} (h : j < bs.length) : (bs.map mapT)[j * 1 + 0]? = some (mapT (bs.getD j 0)) := by
 rw [Nat.mul_one, Nat.add_zero, List.getElem?_map, List.getElem?_eq_getElem h]
 simp [h]
set_option maxHeartbeats 16000000 in
theorem do32J_ (s g n c gl nf lc : Nat) (ps : PS) (pre : List T) (x : Fr) (a : FA) (i : Ins) (bs : List Nat) (m : LM) (hx : FrOk x) (hlab : ps.lab = .v (.slice (some ⟨gl, 0, none⟩) nf lc)) (hnf : bs.length = nf) (hf0 : 0 ≤ x.f) (hf1 : x.f.toNat < nf) (hk : i.kind = 20 ∨ i.kind = 21) (ha : (hasF i.kind).a = true → 0 ≤ i.a ∧ i.a < (x.nr : Int)) (hb : (hasF i.kind).b = true → 0 ≤ i.b ∧ i.b < (x.nr : Int)) (hr : ∀ r ∈ readsF i, 0 ≤ r ∧ r < (x.nr : Int)) (hg : i.args.length ≤ 1048576) (hat : 0 ≤ x.at_ ∧ x.at_ ≤ 4611686018427387904) :
    ACalls Try.prog 32 [.v (.pointer (some ⟨s, 0, none⟩)), .ep (.slice (some ⟨g, 0, none⟩) n c) (pre).length, .agg (insCells i)] (([Ent.box s 80 (psC ps (.v (.slice (some ⟨g, 0, none⟩) n c))), Ent.row (some ⟨g, 0, none⟩) n c 87 7 (pre ++ frC x a)] ++ frR x a) ++ [Ent.row (some ⟨gl, 0, none⟩) nf lc 53 1 (bs.map mapT), Ent.map (bs.getD x.f.toNat 0) (lmT m)]) (fun t S => t = bv (okS x.set (readsF i)) ∧ (([Ent.box s 80 (psC ps (.v (.slice (some ⟨g, 0, none⟩) n c))), Ent.row (some ⟨g, 0, none⟩) n c 87 7 (pre ++ frC (if okS x.set (readsF i) = true then { x with at_ := if i.kind = 20 ∨ holdsF i.cond (rA x i.a) (rA x i.b) = true then getL i.l m else x.at_ + 1 } else x) a)] ++ frR (if okS x.set (readsF i) = true then { x with at_ := if i.kind = 20 ∨ holdsF i.cond (rA x i.a) (rA x i.b) = true then getL i.l m else x.at_ + 1 } else x) a) ++ [Ent.row (some ⟨gl, 0, none⟩) nf lc 53 1 (bs.map mapT), Ent.map (bs.getD x.f.toNat 0) (lmT m)]).Sublist S) := by
 have hl1 := hx.r
 obtain ⟨hat0, hat1⟩ := hat
 refine ACalls.intro Try.func32 rfl Try.ntmps32 nB rfl fun X w0 => ?_
 refine rs ?_
 refine AWL.boxOp rfl rfl (B rfl) rfl (E rfl rfl) rfl (fun b4 => ?_)
 refine AWL.boxOp rfl rfl (B rfl) rfl (E rfl rfl) rfl (fun b5 => ?_)
 refine ya ?_
 refine rs ?_
 refine AWL.allocOp rfl rfl (B rfl) rfl zc_4 (fun b7 => ?_)
 refine AWL.storeBox (i := 10) rfl rfl rfl ag_4 rfl (E rfl rfl) (E rfl rfl) rfl rfl nB (nl ?_)
 refine rs (Y1 (Yv.loadBoxA rfl ag_58 (i := 9) rfl eV rfl rfl) ?_)
 refine Y1 (Yv.makeFunc rfl evs0 rfl (evsC eV (evsC eV evs0)) rfl) ?_
 refine AWL.perm (S' := [Ent.box b7 4 [bv (true)], Ent.box b4 83 [.ep (.slice (some ⟨g, 0, none⟩) n c) (pre).length], Ent.row (some ⟨g, 0, none⟩) n c 87 7 (pre ++ frC x a), Ent.row a.t x.nr x.nr 4 1 (x.set.map bv)] ++ ([Ent.box s 80 (psC ps (.v (.slice (some ⟨g, 0, none⟩) n c))), Ent.row a.r x.nr x.nr 39 1 (x.r.map zw), Ent.row a.s x.ns x.ns 39 1 (x.slot.map zw), Ent.row a.h x.ns x.ns 4 1 (x.there.map bv), Ent.box b5 58 (insCells i)] ++ [Ent.row (some ⟨gl, 0, none⟩) nf lc 53 1 (bs.map mapT), Ent.map (bs.getD x.f.toNat 0) (lmT m)])) pmA2 ?_
 refine C1 rfl ce_49 (E rfl rfl) (evsC (E rfl rfl) (evsC (E rfl rfl) evs0)) (S1 := [Ent.box b7 4 [bv (true)], Ent.box b4 83 [.ep (.slice (some ⟨g, 0, none⟩) n c) (pre).length], Ent.row (some ⟨g, 0, none⟩) n c 87 7 (pre ++ frC x a), Ent.row a.t x.nr x.nr 4 1 (x.set.map bv)]) (S2 := _) rfl (reads49 b7 b4 g n c pre x a true i hx.t hg hr) ?_
 rintro t14 S14 ⟨rfl, rfl⟩
 refine AWL.perm (S' := ([Ent.box s 80 (psC ps (.v (.slice (some ⟨g, 0, none⟩) n c))), Ent.row (some ⟨g, 0, none⟩) n c 87 7 (pre ++ frC x a)] ++ frR x a) ++ ([Ent.box b4 83 [.ep (.slice (some ⟨g, 0, none⟩) n c) (pre).length], Ent.box b5 58 (insCells i), Ent.box b7 4 [bv (okS x.set (readsF i))]] ++ [Ent.row (some ⟨gl, 0, none⟩) nf lc 53 1 (bs.map mapT), Ent.map (bs.getD x.f.toNat 0) (lmT m)])) pmB2 (nl ?_)
 refine AW.seq ?_
 refine rs (yl ag_4 8 ?_)
 refine Y1 (Yv.not rfl eV) (nl ?_)
 refine AW.cond rfl (fun h0t => ?_) (fun h0f => ?_)
 ·refine ra ?_
  refine AW.ret (retI (.tmp rfl .nil) ?_)
  rw [show okS x.set (readsF i) = false by simpa using h0t]
  exact ⟨rfl, sub_mid _ _ _⟩
 have hok : okS x.set (readsF i) = true := by simpa using h0f
 refine AW.skip ?_
 refine rs (Y1 (Yv.assign rfl eV) ?_)
 refine ya ?_
 refine AW.seq ?_
 refine rs (yf fo_58_0 ?_)
 refine yl ag_3 7 (nl ?_)
 refine AW.block ?_
 refine rs (Y1 (Yv.eql rfl eV eV) ?_)
 refine ya ?_
 refine AW.cond rfl (fun h1t => ?_) (fun h1f => ?_)
 ·try replace h1t := odt h1t
  refine AW.rseqP rfl ?_
  refine AWP.phase [true, true, true, true, true, true, true, true, true, true, true, true, true, true, true, true] 1 rfl (by kernel_rfl) (by kernel_rfl) ?_
  refine ql ag_83 6 ?_
  refine qm ?_
  refine Q1 (Yv.nilChk rfl eV) ?_
  refine qf fo_80_1 ?_
  refine ql ag_77 0 ?_
  rw [hlab]
  refine ql ag_83 6 ?_
  refine Q1 (Yv.nilChkEp rfl eV) ?_
  refine Q1 (Yv.fieldEp rfl fo_87_0 eV) ?_
  refine Q1 (Yv.loadEp rfl ag_3 (i := 1) rfl eV (fun hg => fr0)) ?_
  refine Q1 (Yv.indexRow (j := x.f.toNat) rfl ss_77 (i := 9) rfl eV eV (fun hg => ⟨(Int.toNat_of_nonneg (by omega)).symm, by omega⟩)) ?_
  refine Q1 (Yv.loadEp rfl ag_53 (i := 9) rfl eV (fun hg => lab_at (by omega))) ?_
  refine qf fo_58_4 ?_
  refine ql ag_3 7 ?_
  refine Q1 (Yv.eqT (Yv.lookup1 (k := .i _ _) (i := 10) rfl mp_53 rfl eV eV rfl (lm_good _ _ rfl)) (get_lm _ _)) ?_
  refine Q1 (Yv.nilChkEp rfl eV) ?_
  refine Q1 (Yv.fieldEp rfl fo_87_1 eV) ?_
  refine AWQ.nil ?_
  refine p1 16 ?_
  refine AWL.storeEp1 (i := 1) rfl rfl rfl ag_3 rfl (E rfl rfl) (E rfl rfl) rfl rfl (by rw [fr_len]; omega) (nl ?_)
  refine AWP.done (by kernel_rfl) ?_
  refine ra ?_
  refine AW.ret (retI (.tmp rfl .nil) ?_)
  refine ⟨by rw [hok]; rfl, ?_⟩
  rw [if_pos hok, if_pos (.inl h1t), ← fr_jump]
  exact sub_mid _ _ _
 try replace h1f := odf h1f
 refine rs (Y1 (Yv.eql rfl eV eV) ?_)
 refine ya ?_
 refine AW.cond rfl (fun h2t => ?_) (fun h2f => ?_)
 ·try replace h2t := odt h2t
  obtain ⟨ha0, ha1⟩ := ha (by rw [h2t]; rfl)
  obtain ⟨hb0, hb1⟩ := hb (by rw [h2t]; rfl)
  refine rs (yl ag_83 6 ?_)
  refine Y1 (Yv.nilChkEp rfl eV) ?_
  refine Y1 (Yv.fieldEp rfl fo_87_1 eV) ?_
  refine Y1 (Yv.loadEp rfl ag_3 (i := 1) rfl eV (fun hg => fr1)) ?_
  refine Y1 (Yv.addN_i64 rfl eV eV (fun hg => by omega)) ?_
  refine Y1 (Yv.nilChkEp rfl eV) ?_
  refine Y1 (Yv.fieldEp rfl fo_87_1 eV) ?_
  refine AWL.storeEp1 (i := 1) rfl rfl rfl ag_3 rfl (E rfl rfl) (E rfl rfl) rfl rfl (by rw [fr_len]; omega) (nl ?_)
  refine AW.eqS (S' := ([Ent.box s 80 (psC ps (.v (.slice (some ⟨g, 0, none⟩) n c))), Ent.row (some ⟨g, 0, none⟩) n c 87 7 (pre ++ frC (goF x) a)] ++ frR (goF x) a) ++ ([Ent.box b4 83 [.ep (.slice (some ⟨g, 0, none⟩) n c) pre.length], Ent.box b5 58 (insCells i), Ent.box b7 4 [bv (okS x.set (readsF i))]] ++ [Ent.row (some ⟨gl, 0, none⟩) nf lc 53 1 (bs.map mapT), Ent.map (bs.getD x.f.toNat 0) (lmT m)])) (by rw [show (pre ++ frC (goF x) a) = (pre ++ frC x a).set (pre.length + 1) (zi (x.at_ + 1)) from (fr_jump _).symm]; rfl) ?_
  refine AW.seq ?_
  refine AW.rseqP rfl ?_
  refine AWP.phase [true, true, true, true, true, true, true, true, true, true, true, true, true, true, true, true, true, true] 1 rfl (by kernel_rfl) (by kernel_rfl) ?_
  refine qf fo_58_6 ?_
  refine ql ag_3 7 ?_
  refine ql ag_83 6 ?_
  refine Q1 (Yv.nilChkEp rfl eV) ?_
  refine Q1 (Yv.fieldEp rfl fo_87_2 eV) ?_
  refine Q1 (Yv.loadEp rfl ag_84 (i := 1) rfl eV (fun hg => fr2)) ?_
  refine qf fo_58_2 ?_
  refine ql ag_3 7 ?_
  refine Q1 (Yv.indexRow (j := i.a.toNat) rfl ss_84 (i := 2) rfl eV eV (fun hg => ⟨(Int.toNat_of_nonneg ha0).symm, show i.a.toNat < x.nr by omega⟩)) ?_
  refine Q1 (Yv.loadEp rfl ag_39 (i := 2) rfl eV (fun hg => word_at (show i.a.toNat < x.r.length by omega))) ?_
  refine ql ag_83 6 ?_
  refine Q1 (Yv.nilChkEp rfl eV) ?_
  refine Q1 (Yv.fieldEp rfl fo_87_2 eV) ?_
  refine Q1 (Yv.loadEp rfl ag_84 (i := 1) rfl eV (fun hg => fr2)) ?_
  refine qf fo_58_3 ?_
  refine ql ag_3 7 ?_
  refine Q1 (Yv.indexRow (j := i.b.toNat) rfl ss_84 (i := 2) rfl eV eV (fun hg => ⟨(Int.toNat_of_nonneg hb0).symm, show i.b.toNat < x.nr by omega⟩)) ?_
  refine Q1 (Yv.loadEp rfl ag_39 (i := 2) rfl eV (fun hg => word_at (show i.b.toNat < x.r.length by omega))) ?_
  refine AWQ.nil ?_
  refine p1 18 ?_
  refine AWL.callT rfl rfl (B rfl) rfl ce_51 (E rfl rfl) (evsC (E rfl rfl) (evsC (E rfl rfl) (evsC (E rfl rfl) evs0))) (holds51 i.cond (rA x i.a) (rA x i.b)) ?_
  rintro t71 S71 rfl
  refine nl ?_
  refine AWP.done (by kernel_rfl) ?_
  refine AW.cond rfl (fun h3t => ?_) (fun h3f => ?_)
  ·refine AW.regionP rfl ?_
   refine AWP.phase [true, true, true, true, true, true, true, true, true, true, true, true, true, true, true, true] 1 rfl (by kernel_rfl) (by kernel_rfl) ?_
   refine ql ag_83 6 ?_
   refine qm ?_
   refine Q1 (Yv.nilChk rfl eV) ?_
   refine qf fo_80_1 ?_
   refine ql ag_77 0 ?_
   rw [hlab]
   refine ql ag_83 6 ?_
   refine Q1 (Yv.nilChkEp rfl eV) ?_
   refine Q1 (Yv.fieldEp rfl fo_87_0 eV) ?_
   refine Q1 (Yv.loadEp rfl ag_3 (i := 1) rfl eV (fun hg => fr0)) ?_
   refine Q1 (Yv.indexRow (j := x.f.toNat) rfl ss_77 (i := 9) rfl eV eV (fun hg => ⟨(show (goF x).f = ((x.f.toNat : Nat) : Int) from (Int.toNat_of_nonneg hf0).symm), by omega⟩)) ?_
   refine Q1 (Yv.loadEp rfl ag_53 (i := 9) rfl eV (fun hg => lab_at (by omega))) ?_
   refine qf fo_58_4 ?_
   refine ql ag_3 7 ?_
   refine Q1 (Yv.eqT (Yv.lookup1 (k := .i _ _) (i := 10) rfl mp_53 rfl eV eV rfl (lm_good _ _ rfl)) (get_lm _ _)) ?_
   refine Q1 (Yv.nilChkEp rfl eV) ?_
   refine Q1 (Yv.fieldEp rfl fo_87_1 eV) ?_
   refine AWQ.nil ?_
   refine p1 16 ?_
   refine AWL.storeEp1 (i := 1) rfl rfl rfl ag_3 rfl (E rfl rfl) (E rfl rfl) rfl rfl (by rw [fr_len]; omega) (nl ?_)
   refine AWP.done (by kernel_rfl) ?_
   refine ra ?_
   refine AW.ret (retI (.tmp rfl .nil) ?_)
   refine ⟨by rw [hok]; rfl, ?_⟩
   rw [if_pos hok, if_pos (.inr h3t), show frR { x with at_ := getL i.l m } a = frR (goF x) a from rfl, show (pre ++ frC { x with at_ := getL i.l m } a) = (pre ++ frC (goF x) a).set (pre.length + 1) (zi (getL i.l m)) from (fr_jump (pre := pre) (x := goF x) (a := a) (getL i.l m)).symm]
   exact sub_mid _ _ _
  refine AW.skip ?_
  refine ra ?_
  refine AW.ret (retI (.tmp rfl .nil) ?_)
  refine ⟨by rw [hok]; rfl, ?_⟩
  rw [if_pos hok, if_neg (show ¬ (i.kind = 20 ∨ _) from fun e => e.elim h1f (by rw [h3f]; decide))]
  exact sub_mid _ _ _
 try replace h2f := odf h2f
 exfalso; omega

theorem do32J (s g n c gl nf lc : Nat) (ps : PS) (pre : List T) (x : Fr) (a : FA) (i : Ins) (bs : List Nat) (m : LM) (hx : FrOk x) (hlab : ps.lab = .v (.slice (some ⟨gl, 0, none⟩) nf lc)) (hnf : bs.length = nf) (hf0 : 0 ≤ x.f) (hf1 : x.f.toNat < nf) (hk : i.kind = 20 ∨ i.kind = 21) (ha : (hasF i.kind).a = true → 0 ≤ i.a ∧ i.a < (x.nr : Int)) (hb : (hasF i.kind).b = true → 0 ≤ i.b ∧ i.b < (x.nr : Int)) (hr : ∀ r ∈ readsF i, 0 ≤ r ∧ r < (x.nr : Int)) (hg : i.args.length ≤ 1048576) (hat : 0 ≤ x.at_ ∧ x.at_ ≤ 4611686018427387904) : ACalls Try.prog 32 [.v (.pointer (some ⟨s, 0, none⟩)), .ep (.slice (some ⟨g, 0, none⟩) n c) pre.length, .agg (insCells i)] (([Ent.box s 80 (psC ps (.v (.slice (some ⟨g, 0, none⟩) n c))), Ent.row (some ⟨g, 0, none⟩) n c 87 7 (pre ++ frC x a)] ++ frR x a) ++ [Ent.row (some ⟨gl, 0, none⟩) nf lc 53 1 (bs.map mapT), Ent.map (bs.getD x.f.toNat 0) (lmT m)]) (fun t S => t = bv (okS x.set (readsF i)) ∧ S = (([Ent.box s 80 (psC ps (.v (.slice (some ⟨g, 0, none⟩) n c))), Ent.row (some ⟨g, 0, none⟩) n c 87 7 (pre ++ frC (if okS x.set (readsF i) = true then { x with at_ := if i.kind = 20 ∨ holdsF i.cond (rA x i.a) (rA x i.b) = true then getL i.l m else x.at_ + 1 } else x) a)] ++ frR (if okS x.set (readsF i) = true then { x with at_ := if i.kind = 20 ∨ holdsF i.cond (rA x i.a) (rA x i.b) = true then getL i.l m else x.at_ + 1 } else x) a) ++ [Ent.row (some ⟨gl, 0, none⟩) nf lc 53 1 (bs.map mapT), Ent.map (bs.getD x.f.toNat 0) (lmT m)])) :=
 (do32J_ s g n c gl nf lc ps pre x a i bs m hx hlab hnf hf0 hf1 hk ha hb hr hg hat).less fun t S' ⟨h1, h2⟩ => ⟨_, h2, h1, rfl⟩
end Go.Proofs.Ytlfklgganokgdaa

namespace Go.Proofs.Ytlfklgganokgdaa
open Go Go.RowKit
theorem simOf {P : Program} {X : List Nat} {w : World} {S0 : St} (h1 : ∀ b ∈ X, b < w.heap.size ∧ b ∉ M S0) (h2 : (M S0).Nodup) (h3 : ∀ e ∈ S0, e.holds w (X ++ M S0)) : Sim ⟨P, X, M S0, w, 0, []⟩ [] S0 { tmps := #[], defers := [] } w :=
 ⟨Keeps.refl _ _, h2, fun b hb => .inl hb, h1, h3, rfl, rfl, fun k c t hk => by simp [get] at hk⟩
theorem ACalls.frame {P : Program} {f : FuncId} {ts : List T} {S1 : St} {R : T → St → Prop} (h : ACalls P f ts S1 R) (F : St) : ACalls P f ts (S1 ++ F) (fun t S => ∃ S', R t S' ∧ S = S' ++ F) := by
 intro X w args h1 h2 h3 h4 h5
 have hs := simOf (P := P) h1 h2 h3
 obtain ⟨c1, c2, c3, c4⟩ := hs.forCall
 refine (h (X ++ M F) w args c1 c2 c3 h4 (fun j t u e1 e2 => c4 t u (h5 j t u e1 e2))).mono ?_
 rintro e w' ⟨v, t, S', rfl, hk, hnd, hfr, hent, hv, hR⟩
 have hs' := hs.called hk hnd hfr hent
 refine ⟨v, t, S' ++ F, rfl, hs'.keeps, hs'.nd, hs'.fresh, hs'.ents, ?_, S', hR, rfl⟩
 refine hv.mono (Nat.le_refl _) (fun _ _ _ => rfl) (fun b _ hm => ?_)
 rw [M_append] at hm
 simp only [List.mem_append] at hm ⊢
 rcases hm with h | h | h
 ·exact .inl (.inl h)
 ·exact .inr h
 exact .inl (.inr h)
theorem M_perm {S S' : St} (h : S.Perm S') : (M S).Perm (M S') := h.filterMap _
theorem VRep.permL {w : World} {X : List Nat} {S S' : St} {t : T} {u : Value} (h : S.Perm S') (hv : VRep w (X ++ M S) t u) : VRep w (X ++ M S') t u :=
 hv.mono (Nat.le_refl _) (fun _ _ _ => rfl) (fun b _ hm => by
  rcases List.mem_append.1 hm with q | q
  ·exact List.mem_append.2 (.inl q)
  ·exact List.mem_append.2 (.inr ((M_perm h).symm.subset q)))
theorem Ent.permL {w : World} {X : List Nat} {S S' : St} {e : Ent} (h : S.Perm S') (hv : e.holds w (X ++ M S)) : e.holds w (X ++ M S') :=
 hv.mono (Nat.le_refl _) (fun _ _ => rfl) (fun _ _ _ => rfl) (fun b _ hm => by
  rcases List.mem_append.1 hm with q | q
  ·exact List.mem_append.2 (.inl q)
  ·exact List.mem_append.2 (.inr ((M_perm h).symm.subset q)))
theorem ACalls.perm {P : Program} {f : FuncId} {ts : List T} {S0 S1 : St} {R : T → St → Prop} (h : ACalls P f ts S1 R) (hp : S0.Perm S1) : ACalls P f ts S0 R := by
 intro X w args h1 h2 h3 h4 h5
 refine (h X w args (fun b hb => ⟨(h1 b hb).1, fun q => (h1 b hb).2 ((M_perm hp).symm.subset q)⟩) ((M_perm hp).nodup_iff.1 h2) (fun e he => Ent.permL hp (h3 e (hp.symm.subset he))) h4 (fun j t u e1 e2 => VRep.permL hp (h5 j t u e1 e2))).mono ?_
 rintro e w' ⟨v, t, S', rfl, hk, hnd, hfr, hent, hv, hR⟩
 refine ⟨v, t, S', rfl, hk.mono (fun b hb _ => (M_perm hp).symm.subset hb), hnd, fun b hb => ?_, hent, hv, hR⟩
 rcases hfr b hb with q | q
 ·exact .inl ((M_perm hp).symm.subset q)
 exact .inr q
theorem ACalls.permR {P : Program} {f : FuncId} {ts : List T} {S0 : St} {R R' : T → St → Prop} (h : ACalls P f ts S0 R) (hr : ∀ t S', R t S' → ∃ S'', S''.Perm S' ∧ R' t S'') : ACalls P f ts S0 R' := fun X w args h1 h2 h3 h4 h5 =>
 (h X w args h1 h2 h3 h4 h5).mono fun e w' ⟨v, t, S', a, b, c, d, e', f', r⟩ => by
  obtain ⟨S'', hp, r'⟩ := hr t S' r
  exact ⟨v, t, S'', a, b, (M_perm hp).nodup_iff.2 c, fun b hb => d b ((M_perm hp).subset hb), fun e he => Ent.permL hp.symm (e' e (hp.subset he)), VRep.permL hp.symm f', r'⟩
theorem ACalls.lessR {P : Program} {f : FuncId} {ts : List T} {S0 : St} {R R' : T → St → Prop} (h : ACalls P f ts S0 R) (hr : ∀ t S', R t S' → ∃ S'' l, l.Sublist S' ∧ S''.Perm l ∧ R' t S'') : ACalls P f ts S0 R' :=
 (h.less (R' := fun t S => ∃ S'', S''.Perm S ∧ R' t S'') fun t S' r => by
  obtain ⟨S'', l, hs, hl, r'⟩ := hr t S' r
  exact ⟨l, hs, S'', hl, r'⟩).permR fun t S' r => r
theorem ACalls.part {P : Program} {f : FuncId} {ts : List T} {S0 S1 : St} {R R' : T → St → Prop} (F : St) (h : ACalls P f ts S1 R) (hp : S0.Perm (S1 ++ F)) (hr : ∀ t S', R t S' → ∃ S'', S''.Perm (S' ++ F) ∧ R' t S'') : ACalls P f ts S0 R' :=
 ((h.frame F).perm hp).permR fun t S' ⟨S1', r, e⟩ => by
  obtain ⟨S'', q, r'⟩ := hr t S1' r
  exact ⟨S'', e ▸ q, r'⟩
theorem ACalls.keepIn {P : Program} {f : FuncId} {ts : List T} {S0 S1 : St} {r : T} (F : St) (h : ACalls P f ts S1 (fun t S => t = r ∧ S = S1)) (hp : S0.Perm (S1 ++ F)) : ACalls P f ts S0 (fun t S => t = r ∧ S = S0) :=
 ACalls.part F h hp (fun t S' ⟨e1, e2⟩ => ⟨S0, by rw [e2]; exact hp, e1, rfl⟩)
theorem ACalls.keepR {P : Program} {f : FuncId} {ts : List T} {S1 : St} {r : T} (h : ACalls P f ts S1 (fun t S => t = r ∧ S = S1)) (Y : St) : ACalls P f ts (S1 ++ Y) (fun t S => t = r ∧ S = S1 ++ Y) := h.keepIn Y (List.Perm.refl _)
theorem ACalls.keepL {P : Program} {f : FuncId} {ts : List T} {S1 : St} {r : T} (h : ACalls P f ts S1 (fun t S => t = r ∧ S = S1)) (X : St) : ACalls P f ts (X ++ S1) (fun t S => t = r ∧ S = X ++ S1) := h.keepIn X List.perm_append_comm
end Go.Proofs.Ytlfklgganokgdaa

namespace Go.Proofs.Ytlfklgganokgdaa
open Go Go.RowKit
section
variable {cx : Cx} {env : Env} {S : St} {o : Oper} {x y z : Operand} {ops : Array Oper} {l : List Oper} {K : Env → St → Prop} {d : Nat}
theorem AWL.effV (hg : o.guard = none) (hd : o.dst = none)
    (h : ∀ a w, Sim cx env S a w → ∃ u w' S', (execOp a.eval o).run cx.P w = .ok (.value u) w' ∧ Sim cx env S' a w' ∧ AWL cx ops l K env S') : AWL cx ops (o :: l) K env S := by
 intro a w hs
 unfold wpList
 rw [if_pos (wanted_none hg)]
 obtain ⟨u, w', S', h1, h2, h4⟩ := h a w hs
 refine .inl ?_
 unfold Oper.wp
 rw [h1, Oper.upon_value, hd]
 exact h4 _ _ (h2.putNone _)
theorem AWL.clearRow {t e : TypeId} {b n c i : Nat} {z0 : Value} {A : Option Addr} {cs : List T} (hg : o.guard = none) (hd : o.dst = none)
    (ho : o.op = .call { callee := .builtin .clear, args := #[x], argTypes := #[t] }) (he : elemOf cx.P t = some (e, 1, b, [z0])) (hi : S[i]? = some (.row A n c e 1 cs)) (hx : Ev env true x (.v (.slice A n c)))
    (hr : AWL cx ops l K env (S.set i (.row A n c e 1 (List.replicate n (.v z0))))) : AWL cx ops (o :: l) K env S := by
 refine AWL.effV hg hd fun a w hs => ?_
 obtain ⟨us, hrow, hV⟩ := hs.row hi
 obtain ⟨h1, i', z', h2, hz', h3, _, hzc, _, hz1⟩ := elemOf_spec he
 have hul : us.length = n := by rw [hrow.1, Nat.mul_one]
 have hcl : cs.length = n := by rw [hV.len, hul]
 have hzv : ∀ w : World, (zeroValue e).run cx.P w = .ok z' w := fun w => by simp [zeroValue, typeInfo, h2, hz', Sem.run_bind, Sem.run_pure]
 rcases Nat.eq_zero_or_pos n with h0 | h0
 ·subst h0
  have hcs : cs = [] := List.eq_nil_of_length_eq_zero hcl
  refine ⟨.tuple #[], w, S, ?_, hs, ?_⟩
  ·cases A <;> simp [execOp, ho, resolve, invoke, builtin, Sem.run_bind, Sem.run_pure, hx.val hs rfl, Builtin.clear_, run_underlying h1]
  have e1 : S.set i (.row A 0 c e 1 (List.replicate 0 (.v z0))) = S := by
   apply List.ext_getElem?
   intro q
   rw [List.getElem?_set]
   split
   ·rename_i hq
    subst hq
    rw [hi]
    have := (List.getElem?_eq_some_iff.1 hi).1
    rw [if_pos this, hcs]; rfl
   ·rfl
  rw [e1] at hr
  exact hr
 obtain ⟨gb, rfl⟩ := hrow.some (by omega)
 have hone : ∀ u ∈ List.replicate n z0, u.oneCell' = true := fun u hu => by rw [List.eq_of_mem_replicate hu]; exact hz1 z0 (by simp)
 have hv : VReps w (cx.X ++ M S) (List.replicate n (.v z0)) (List.replicate n z0) := by
  have := vreps_vals (w := w) (L := cx.X ++ M S) (List.replicate n z0) hone
  rwa [List.map_replicate] at this
 obtain ⟨hst, hrow'⟩ := hrow.write (P := cx.P) hone (p := 0) (by rw [List.length_replicate]; omega)
 have hsim := hs.wrote hi hV hv hrow'
 refine ⟨.tuple #[], w.setCells gb 0 (List.replicate n z0), _, ?_, hsim, ?_⟩
 ·have hzl : (Builtin.zeroCells z'.cells n).toList = List.replicate n z0 := by
   rw [hzc]
   simp [Builtin.zeroCells]
   apply List.ext_getElem
   ·simp
   ·intro i h1 h2
    simp [Nat.mod_one]
  obtain ⟨m, rfl⟩ : ∃ m, n = m + 1 := ⟨n - 1, by omega⟩
  simp [execOp, ho, resolve, invoke, builtin, Sem.run_bind, Sem.run_pure, hx.val hs rfl, Builtin.clear_, run_underlying h1, hzv, hzl, hst]
 rw [List.take_zero, List.nil_append, Nat.zero_add, List.drop_of_length_le (by rw [List.length_replicate]; omega), List.append_nil]
 exact hr
end
end Go.Proofs.Ytlfklgganokgdaa

namespace Go.Proofs.Ytlfklgganokgdaa
open Go Go.RowKit

theorem call_sub {X N C Y : St} : (X ++ N ++ C).Sublist (X ++ N ++ (C ++ Y)) := (List.sublist_append_left C Y).append_left _
theorem take_pre {pre : List T} {x : Fr} {a : FA} {k : Nat} (h : pre.length = k * 7) : (pre ++ frC x a).take (k * 7) = pre := by rw [List.take_left' h]
theorem has_a23 {k : Int} (h : k = 23 ∨ k = 25) : (hasF k).a = true := by rcases h with rfl | rfl <;> rfl
theorem has_f {k : Int} (h : k = 22 ∨ k = 24) : (hasF k).f = true := by rcases h with rfl | rfl <;> rfl
theorem callee_23 {p : Prog} {x : Fr} {i : Ins} (h : i.kind = 23 ∨ i.kind = 25) (hb : badTo p x i = false) : calleeF p x i = some (toN x i).toNat := by
 rw [calleeF, if_pos h, if_neg (by rw [hb]; decide)]
theorem callee_22 {p : Prog} {x : Fr} {i : Ins} (h : ¬ (i.kind = 23 ∨ i.kind = 25)) : calleeF p x i = some i.f.toNat := by rw [calleeF, if_neg h]
theorem wI_len {n : Nat} (h : n ≤ 1048576) : (wI (n : Int)).toNat = n := by
 have := wI_nat (n : Int)
 rw [wrap_u64] at this
 omega
theorem to_lt' {p : Prog} {x : Fr} {i : Ins} (hpf : p.funs.length ≤ 1048576) (h : ¬ wI (p.funs.length : Int) ≤ toN x i) : (toN x i).toNat < p.funs.length := by
 have h1 : toN x i < wI (p.funs.length : Int) := BitVec.not_le.1 h
 rw [BitVec.lt_def, wI_len hpf] at h1
 exact h1
theorem callee_in {p : Prog} {x : Fr} {i : Ins} {f : Nat} (hp : ProgOk p) (hpf : p.funs.length ≤ 1048576) (hf : (hasF i.kind).f = true → (0 ≤ i.f ∧ i.f.toNat < p.funs.length) ∧ (i.args.length : Int) = parF p i.f) (hkd : i.kind = 22 ∨ i.kind = 23 ∨ i.kind = 24 ∨ i.kind = 25) (h : calleeF p x i = some f) :
    f < p.funs.length ∧ ((i.args.map (rA x)).length : Int) ≤ (p.funs.getD f default).regs := by
 rw [List.length_map]
 unfold calleeF at h
 split at h
 ·split at h
  ·cases h
  rename_i hb
  cases h
  have hb' : badTo p x i = false := by simpa using hb
  unfold badTo at hb'
  simp only [Bool.or_eq_false_iff, decide_eq_false_iff_not, Bool.not_eq_false', decide_eq_true_eq] at hb'
  have h1 := to_lt' hpf hb'.1.2
  have h2 := (hp.fn _ (getD_mem h1)).par2
  exact ⟨h1, by have := hb'.2; omega⟩
 cases h
 obtain ⟨h1, h2⟩ := hf (has_f (by omega))
 have h3 := (hp.fn _ (getD_mem h1.2)).par2
 unfold parF at h2
 exact ⟨h1.2, by omega⟩
theorem fn_regs {p : Prog} {f : Nat} (hp : ProgOk p) (hf : f < p.funs.length) : 0 ≤ (p.funs.getD f default).regs ∧ (p.funs.getD f default).regs ≤ 65536 ∧ 0 ≤ (p.funs.getD f default).slots ∧ (p.funs.getD f default).slots ≤ 1048576 := by
 have h := hp.fn _ (getD_mem hf)
 have := h.par0
 have := h.par2
 exact ⟨by omega, h.regs, h.slot0, h.slot1⟩
theorem rep_bv (n : Nat) : (List.replicate n false).map bv = List.replicate n (T.v (.bool false)) := List.map_replicate
theorem callF_rows (s : Bool) (x : Fr) (a : FA) : frR (callF s x) a = [.row a.r x.nr x.nr 39 1 (x.r.map zw), .row a.s x.ns x.ns 39 1 (x.slot.map zw), .row a.t x.nr x.nr 4 1 ((if s = true then List.replicate x.nr false else x.set).map bv), .row a.h x.ns x.ns 4 1 (x.there.map bv)] := rfl
theorem to_lt {p : Prog} {x : Fr} {i : Ins} (hpf : p.funs.length ≤ 1048576) (h : ((4194304#64 ≤ rA x i.a ∧ (rA x i.a - 4194304#64) % 16#64 = 0#64) ∧ (rA x i.a - 4194304#64) / 16#64 < wI (p.funs.length : Int))) : (toN x i).toNat < p.funs.length := to_lt' hpf (BitVec.not_le.2 h.2)
set_option maxHeartbeats 16000000 in
theorem jumpsCall_ (s g c k : Nat) (ps : PS) (pre : List T) (x : Fr) (a : FA) (i : Ins) (hx : FrOk x) (hpre : pre.length = k * 7) (hk : k < 1048576) (hkd : i.kind = 22 ∨ i.kind = 23 ∨ i.kind = 24 ∨ i.kind = 25) (hp : ProgOk ps.prog) (hpf : ps.prog.funs.length ≤ 1048576) (ha : (hasF i.kind).a = true → 0 ≤ i.a ∧ i.a < (x.nr : Int)) (har : ∀ r ∈ i.args, 0 ≤ r ∧ r < (x.nr : Int)) (hg : i.args.length ≤ 1048576) (hf : (hasF i.kind).f = true → (0 ≤ i.f ∧ i.f.toNat < ps.prog.funs.length) ∧ (i.args.length : Int) = parF ps.prog i.f) (hat : 0 ≤ x.at_ ∧ x.at_ ≤ 4611686018427387904) :
    ACalls Try.prog 52 [.v (.pointer (some ⟨s, 0, none⟩)), .ep (.slice (some ⟨g, 0, none⟩) (k + 1) c) pre.length, .agg (insCells i)] ([Ent.box s 80 (psC ps (.v (.slice (some ⟨g, 0, none⟩) (k + 1) c))), Ent.row (some ⟨g, 0, none⟩) (k + 1) c 87 7 (pre ++ frC x a)] ++ frR x a) (fun t S => match calleeF ps.prog x i with
    | none => t = bv false ∧ ([Ent.box s 80 (psC ps (.v (.slice (some ⟨g, 0, none⟩) (k + 1) c))), Ent.row (some ⟨g, 0, none⟩) (k + 1) c 87 7 (pre ++ frC x a)] ++ frR x a).Sublist S
    | some f => if i.kind = 24 ∨ i.kind = 25 then t = bv true ∧ ∃ g' c' a', ([Ent.box s 80 (psC ps (.v (.slice (some ⟨g', 0, none⟩) (k + 1) c'))), Ent.row (some ⟨g', 0, none⟩) (k + 1) c' 87 7 (pre ++ frC (openFr (ps.prog.funs.getD f default) f (argsF x i) x.d) a')] ++ frR (openFr (ps.prog.funs.getD f default) f (argsF x i) x.d) a').Sublist S
     else if 1048576 ≤ k + 1 then t = bv false ∧ ([Ent.box s 80 (psC ps (.v (.slice (some ⟨g, 0, none⟩) (k + 1) c))), Ent.row (some ⟨g, 0, none⟩) (k + 1) c 87 7 (pre ++ frC x a)] ++ frR x a).Sublist S
     else t = bv true ∧ ∃ g' c' a', ([Ent.box s 80 (psC ps (.v (.slice (some ⟨g', 0, none⟩) (k + 2) c'))), Ent.row (some ⟨g', 0, none⟩) (k + 2) c' 87 7 (pre ++ frC (callF ps.strict x) a ++ frC (openFr (ps.prog.funs.getD f default) f (argsF x i) i.d) a')] ++ frR (openFr (ps.prog.funs.getD f default) f (argsF x i) i.d) a' ++ frR (callF ps.strict x) a).Sublist S) := by
 have hl1 := hx.r
 have hl3 := hx.t
 obtain ⟨hat0, hat1⟩ := hat
 refine ACalls.intro Try.func52 rfl Try.ntmps52 nB rfl fun X w0 => ?_
 refine rs ?_
 refine AWL.boxOp rfl rfl (B rfl) rfl (E rfl rfl) rfl (fun b5 => ?_)
 refine ya ?_
 refine AW.seq ?_
 refine rs (yf fo_58_0 ?_)
 refine yl ag_3 6 ?_
 refine Y1 (Yv.eql rfl eV eV) (nl ?_)
 refine AW.cond rfl (fun h0t => ?_) (fun h0f => ?_)
 ·try replace h0t := odt h0t
  exfalso; omega
 try replace h0f := odf h0f
 refine AW.skip ?_
 refine rs (yf fo_58_5 ?_)
 refine yl ag_3 6 ?_
 refine ya ?_
 refine AW.mid (α := Nat) (fun f => [(0, true, pv s), (1, true, .ep (.slice (some ⟨g, 0, none⟩) (k + 1) c) pre.length), (5, true, pv b5), (7, true, .v (.int .i64 (f : Int)))]) (fun _ => ([Ent.box s 80 (psC ps (.v (.slice (some ⟨g, 0, none⟩) (k + 1) c))), Ent.row (some ⟨g, 0, none⟩) (k + 1) c 87 7 (pre ++ frC x a)] ++ frR x a) ++ [Ent.box b5 58 (insCells i)]) (fun f => calleeF ps.prog x i = some f) ?_ ?_
 ·refine rs (yf fo_58_0 ?_)
  refine yl ag_3 6 ?_
  refine Y1 (Yv.eql rfl eV eV) ?_
  refine ym ?_
  refine gF (Yv.fieldBox rfl fo_58_0 eV) ?_
  refine gF (Yv.loadBox rfl ag_3 (i := 6) rfl (Eg rfl rfl id) rfl) ?_
  refine gF (Yv.eql rfl (Eg rfl rfl id) eV) ?_
  refine Y1 (Yv.pickOr (t := .const (.bool true)) rfl eV (Eg rfl rfl id)) (nl ?_)
  refine AW.cond rfl (fun h1t => ?_) (fun h1f => ?_)
  ·have hk23 : i.kind = 23 ∨ i.kind = 25 := by simpa using h1t
   obtain ⟨ha0, ha1⟩ := ha (has_a23 hk23)
   refine AW.rseqQ rfl (by kernel_rfl) ?_
   refine qm ?_
   refine Q1 (Yv.nilChkEp rfl eV) ?_
   refine Q1 (Yv.fieldEp rfl fo_87_2 eV) ?_
   refine Q1 (Yv.loadEp rfl ag_84 (i := 1) rfl eV (fun hg => fr2)) ?_
   refine qf fo_58_2 ?_
   refine ql ag_3 6 ?_
   refine Q1 (Yv.indexRow (j := i.a.toNat) rfl ss_84 (i := 2) rfl eV eV (fun hg => ⟨(Int.toNat_of_nonneg (by omega)).symm, by omega⟩)) ?_
   refine Q1 (Yv.loadEp rfl ag_39 (i := 2) rfl eV (fun hg => word_at (by omega))) ?_
   refine Q1 (Yv.subW (b := 4194304#64) rfl eV eV) ?_
   refine Q1 (Yv.assign rfl eV) ?_
   refine AWQ.nil ?_
   refine AW.seq ?_
   refine AW.rseqQ rfl (by kernel_rfl) ?_
   refine qm ?_
   refine Q1 (Yv.nilChkEp rfl eV) ?_
   refine Q1 (Yv.fieldEp rfl fo_87_2 eV) ?_
   refine Q1 (Yv.loadEp rfl ag_84 (i := 1) rfl eV (fun hg => fr2)) ?_
   refine qf fo_58_2 ?_
   refine ql ag_3 6 ?_
   refine Q1 (Yv.indexRow (j := i.a.toNat) rfl ss_84 (i := 2) rfl eV eV (fun hg => ⟨(Int.toNat_of_nonneg (by omega)).symm, by omega⟩)) ?_
   refine Q1 (Yv.loadEp rfl ag_39 (i := 2) rfl eV (fun hg => word_at (by omega))) ?_
   refine Q1 (Yv.lssW (b := 4194304#64) rfl eV eV) ?_
   refine qm ?_
   refine kF (Yv.move rfl eV) ?_
   refine kF (Yv.remW (b := 16#64) rfl (Eg rfl rfl id) (E rfl rfl) (by decide)) ?_
   refine kF (Yv.neqW (b := 0#64) rfl (Eg rfl rfl id) eV) ?_
   refine Q1 (Yv.pickOr (t := .const (.bool true)) rfl eV (Eg rfl rfl id)) ?_
   refine qm ?_
   refine kF (Yv.move rfl eV) ?_
   refine kF (Yv.quoW (b := 16#64) rfl (Eg rfl rfl id) (E rfl rfl) (by decide)) ?_
   refine kF (Yv.move rfl eV) ?_
   refine kF (Yv.nilChk rfl (Eg rfl rfl id)) ?_
   refine kF (Yv.fieldBox rfl fo_80_0 (Eg rfl rfl id)) ?_
   refine kF (Yv.fieldBox rfl fo_25_0 (Eg rfl rfl id)) ?_
   refine kF (Yv.loadBox rfl ag_22 (i := 0) rfl (Eg rfl rfl id) rfl) ?_
   refine kF (Yv.lenSl rfl so_22 (B rfl) (Eg rfl rfl id) len_funs) ?_
   refine kF (Yv.convW rfl Try.underlying3 kd_39 (Eg rfl rfl id)) ?_
   refine kF (Yv.geqW rfl (Eg rfl rfl id) (Eg rfl rfl id)) ?_
   refine Q1 (Yv.pickOr (t := .const (.bool true)) rfl eV (Eg rfl rfl id)) ?_
   refine qm ?_
   refine kF (Yv.move rfl eV) ?_
   refine kF (Yv.nilChk rfl (Eg rfl rfl id)) ?_
   refine kF (Yv.fieldBox rfl fo_80_0 (Eg rfl rfl id)) ?_
   refine kF (Yv.fieldBox rfl fo_25_0 (Eg rfl rfl id)) ?_
   refine kF (Yv.loadBox rfl ag_22 (i := 0) rfl (Eg rfl rfl id) rfl) ?_
   refine kF (Yv.move rfl eV) ?_
   refine kF (Yv.quoW (b := 16#64) rfl (Eg rfl rfl id) (E rfl rfl) (by decide)) ?_
   refine kF (Yv.indexSl (j := (toN x i).toNat) rfl ss_22 (B rfl) (Eg rfl rfl id) (Eg rfl rfl id) (fun hg => ⟨rfl, by rw [len_funs]; have := to_lt hpf (by simpa [rA] using hg); omega⟩)) ?_
   refine kF (Yv.fieldRp rfl fo_51_1 (Eg rfl rfl id)) ?_
   refine kF (Yv.loadRp rfl ag_3 (Eg rfl rfl id) (fun hg => fpar_at (to_lt hpf (by simpa [rA] using hg)))) ?_
   refine kF (Yv.fieldBox rfl fo_58_10 eV) ?_
   refine kF (Yv.loadBox rfl ag_47 (i := 6) rfl (Eg rfl rfl id) rfl) ?_
   refine kF (Yv.lenSl rfl so_47 (B rfl) (Eg rfl rfl id) len_args) ?_
   refine kF (Yv.neq rfl (Eg rfl rfl id) (Eg rfl rfl id)) ?_
   refine Q1 (Yv.pickOr (t := .const (.bool true)) rfl eV (Eg rfl rfl id)) ?_
   refine AWQ.nil ?_
   refine AW.cond rfl (fun h2t => ?_) (fun h2f => ?_)
   ·have hbad : badTo ps.prog x i = true := h2t
    refine ra ?_
    refine AW.ret (retI (.tmp rfl .nil) ?_)
    rw [show calleeF ps.prog x i = none by rw [calleeF, if_pos hk23, if_pos hbad]]
    exact ⟨rfl, List.sublist_append_left _ _⟩
   have htl : ((x.r.getD i.a.toNat 0#64 - 4194304#64) / 16#64).toNat < ps.prog.funs.length := (callee_in hp hpf hf hkd (callee_23 (by omega) h2f)).1
   refine AW.skip ?_
   refine AW.region ?_
   refine ym ?_
   refine Y1 (Yv.quoW (b := 16#64) rfl (E rfl rfl) (E rfl rfl) (by decide)) ?_
   refine Y1 (Yv.convN_i64 rfl Try.underlying39 kd_3 eV (fun hg => by omega)) ?_
   refine ya ?_
   refine ⟨(toN x i).toNat, ?_, (su (su (su (su sn)))), rfl⟩
   exact callee_23 (by omega) h2f
  have hk22 : ¬ (i.kind = 23 ∨ i.kind = 25) := by simpa using h1f
  refine AW.skip ?_
  refine ⟨i.f.toNat, ?_, (su (su (su (Sub.cons rfl (by rw [Int.toNat_of_nonneg (hf (has_f (by omega))).1.1]; rfl) Sub.nil)))), rfl⟩
  exact callee_22 (by omega)
 rintro f hcal
 have hcf := callee_in hp hpf hf hkd hcal
 have hfo := fn_regs hp hcf.1
 refine ra ?_
 refine AW.rowNil 39 1 ?_
 refine AW.seq ?_
 refine rs (yf fo_58_10 ?_)
 refine yl ag_47 6 ?_
 refine Y1 (Yv.lenSl rfl so_47 (B rfl) eV len_args) ?_
 refine ym (nl ?_)
 refine AW.block ?_
 refine AW.loop3 (fun (j : Nat) (A : Option Addr) (c2 : Nat) => [(0, true, pv s), (1, true, .ep (.slice (some ⟨g, 0, none⟩) (k + 1) c) pre.length), (5, true, pv b5), (7, true, .v (.int .i64 (f : Int))), (9, true, .v (.slice A j c2)), (91, true, .sl 1 (i.args.map zi)), (92, true, .v (.int .i64 (i.args.length : Int))), (93, true, .v (.int .i64 (j : Int)))]) (fun (j : Nat) (A : Option Addr) (c2 : Nat) => (([Ent.box s 80 (psC ps (.v (.slice (some ⟨g, 0, none⟩) (k + 1) c))), Ent.row (some ⟨g, 0, none⟩) (k + 1) c 87 7 (pre ++ frC x a)] ++ frR x a) ++ [Ent.box b5 58 (insCells i), Ent.row A j c2 39 1 (((i.args.take j).map (rA x)).map zw)])) (fun (j : Nat) (A : Option Addr) (c2 : Nat) => j ≤ i.args.length) (fun (j : Nat) (A : Option Addr) (c2 : Nat) => i.args.length - j) 0 none 0 ?_ ?_ ?_ ?_
 ·exact Nat.zero_le _
 ·exact (su (su (su (su (su (su (su (su sn))))))))
 ·rfl
 intro j A c2 hinv
 refine rs (Y1 (Yv.lss rfl eV eV) (nl ?_))
 refine AW.seq ?_
 refine AW.cond rfl (fun h3t => ?_) (fun h3f => ?_)
 ·try replace h3t := odt h3t
  have hj : j < i.args.length := by omega
  have hjr := har _ (getD_mem (l := i.args) hj)
  refine AW.skip ?_
  refine AW.seq ?_
  refine AW.block ?_
  refine rs (Y1 (Yv.indexSl rfl ss_47 (B rfl) eV eV (fun hg => ⟨rfl, (by first | omega | (simp only [len_code, len_funs, len_args, len_data, len_zw]; omega))⟩)) ?_)
  refine Y1 (Yv.loadRp rfl ag_3 eV (fun hg => arg_at (by omega))) ?_
  refine ya ?_
  refine AW.region ?_
  refine ym ?_
  refine ym ?_
  refine Y1 (Yv.nilChkEp rfl eV) ?_
  refine Y1 (Yv.fieldEp rfl fo_87_2 eV) ?_
  refine Y1 (Yv.loadEp rfl ag_84 (i := 1) rfl eV (fun hg => fr2)) ?_
  refine ym ?_
  refine Y1 (Yv.indexRow (j := (i.args.getD j default).toNat) rfl ss_84 (i := 2) rfl eV eV (fun hg => ⟨(Int.toNat_of_nonneg (by omega)).symm, by omega⟩)) ?_
  refine Y1 (Yv.loadEp rfl ag_39 (i := 2) rfl eV (fun hg => word_at (by omega))) ?_
  refine AWL.buildSlice1 rfl rfl (B rfl) rfl el_84 rfl (evsC (E rfl rfl) evs0) nB rfl rfl ?_
  refine AWL.appendRow (i := 7) rfl rfl (B rfl) rfl el_84 (B rfl) rfl (E rfl rfl) (SrcT.sl so_84 (B rfl) (E rfl rfl) rfl) (by unfold maxLen; omega) (by omega) (fun A106 c106 => ?_)
  refine ya ?_
  refine AW.region ?_
  refine Y1 (Yv.addN_i64 rfl eV eV (fun hg => by omega)) ?_
  refine ym (nl ?_)
  refine ⟨j + 1, A106, c106, by omega, by omega, (su (su (su (su (su (su (su (Sub.cons rfl (by simp) Sub.nil)))))))), ?_⟩
  rw [take_gd (show j < i.args.length by omega), List.map_append, List.map_append]
  rfl
 try replace h3f := odf h3f
 obtain rfl : j = i.args.length := by omega
 refine AW.exit ?_
 refine rs (yf fo_58_1 ?_)
 refine yl ag_3 6 ?_
 refine ya ?_
 refine AW.seq ?_
 refine rs (yf fo_58_0 ?_)
 refine yl ag_3 6 ?_
 refine Y1 (Yv.eql rfl eV eV) ?_
 refine ym ?_
 refine gF (Yv.fieldBox rfl fo_58_0 eV) ?_
 refine gF (Yv.loadBox rfl ag_3 (i := 6) rfl (Eg rfl rfl id) rfl) ?_
 refine gF (Yv.eql rfl (Eg rfl rfl id) eV) ?_
 refine Y1 (Yv.pickOr (t := .const (.bool true)) rfl eV (Eg rfl rfl id)) (nl ?_)
 refine AW.cond rfl (fun h4t => ?_) (fun h4f => ?_)
 ·have hk24 : i.kind = 24 ∨ i.kind = 25 := by simpa using h4t
  refine rs (ym ?_)
  refine Y1 (Yv.nilChkEp rfl eV) ?_
  refine Y1 (Yv.fieldEp rfl fo_87_6 eV) ?_
  refine Y1 (Yv.loadEp rfl ag_3 (i := 1) rfl eV (fun hg => fr6)) ?_
  refine ya ?_
  refine AW.rowLe 1 rfl (fun hkc => ?_)
  refine AW.regionP rfl ?_
  refine AWP.phase [true, true, true, true, true, true, true, true, true, true, true, true, true, true] 1 rfl (by kernel_rfl) (by kernel_rfl) ?_
  refine qm ?_
  refine qm ?_
  refine Q1 (Yv.nilChk rfl eV) ?_
  refine qf fo_80_6 ?_
  refine ql ag_78 0 ?_
  refine qm ?_
  refine Q1 (Yv.nilChk rfl eV) ?_
  refine qf fo_80_6 ?_
  refine ql ag_78 0 ?_
  refine Q1 (Yv.lenV rfl so_78 eV) ?_
  refine Q1 (Yv.subN_i64 rfl eV eV (fun hg => by omega)) ?_
  refine Q1 (Yv.sliceRow0 (i := 1) (m := k) rfl ss_78 rfl eV (Bound.some_ eV (fun hg => by omega)) (fun hg => by omega)) ?_
  refine Q1 (Yv.nilChk rfl eV) ?_
  refine qf fo_80_6 ?_
  refine AWQ.nil ?_
  refine p1 14 ?_
  refine AWL.storeBox (i := 0) rfl rfl rfl ag_78 rfl (E rfl rfl) (E rfl rfl) rfl rfl nB (nl ?_)
  refine AWP.done (by kernel_rfl) ?_
  refine AW.shrink 1 k rfl (by omega) ?_
  refine AW.eqS (S' := ([Ent.box s 80 (psC ps (.v (.slice (some ⟨g, 0, none⟩) k c))), Ent.row (some ⟨g, 0, none⟩) k c 87 7 (pre)] ++ frR x a) ++ [Ent.box b5 58 (insCells i), Ent.row A i.args.length c2 39 1 (((i.args.take i.args.length).map (rA x)).map zw)]) (by
   rw [take_pre hpre]
   rfl) ?_
  rw [List.take_length]
  refine AW.freeze 7 9 rfl (B rfl) rfl ?_
  refine rs (ym ?_)
  refine ym ?_
  refine ym ?_
  refine ym ?_
  refine C1 rfl ce_31 (E rfl rfl) (evsC (E rfl rfl) (evsC (E rfl rfl) (evsC (E rfl rfl) (evsC (E rfl rfl) evs0)))) (S1 := [Ent.box s 80 (psC ps (.v (.slice (some ⟨g, 0, none⟩) k c))), Ent.row (some ⟨g, 0, none⟩) k c 87 7 (pre)]) (S2 := _) rfl (open31 s ps f (i.args.map (rA x)) x.d (some ⟨g, 0, none⟩) k c pre hcf.1 hpf hfo.1 hfo.2.1 hfo.2.2.1 hfo.2.2.2 hcf.2 (by omega)) ?_
  rintro t161 S161 ⟨rfl, g2, c3, a2, rfl⟩
  refine nl ?_
  refine ra ?_
  refine AW.ret (retI (.tmp rfl .nil) ?_)
  rw [hcal]
  simp only [if_pos hk24]
  exact ⟨rfl, g2, c3, a2, List.sublist_append_left _ _⟩
 have hk24 : ¬ (i.kind = 24 ∨ i.kind = 25) := by simpa using h4f
 refine AW.seq ?_
 refine rs (ym ?_)
 refine Y1 (Yv.nilChk rfl eV) ?_
 refine yf fo_80_6 ?_
 refine yl ag_78 0 ?_
 refine Y1 (Yv.lenV rfl so_78 eV) ?_
 refine Y1 (Yv.geq rfl eV eV) (nl ?_)
 refine AW.cond rfl (fun h5t => ?_) (fun h5f => ?_)
 ·try replace h5t := odt h5t
  refine ra ?_
  refine AW.ret (retI (.tmp rfl .nil) ?_)
  rw [hcal]
  simp only [if_neg hk24]
  rw [if_pos (by omega)]
  exact ⟨rfl, List.sublist_append_left _ _⟩
 try replace h5f := odf h5f
 refine AW.skip ?_
 refine rs (ym ?_)
 refine Y1 (Yv.nilChkEp rfl eV) ?_
 refine Y1 (Yv.fieldEp rfl fo_87_1 eV) ?_
 refine Y1 (Yv.loadEp rfl ag_3 (i := 1) rfl eV (fun hg => fr1)) ?_
 refine Y1 (Yv.addN_i64 rfl eV eV (fun hg => by omega)) ?_
 refine Y1 (Yv.nilChkEp rfl eV) ?_
 refine Y1 (Yv.fieldEp rfl fo_87_1 eV) ?_
 refine AWL.storeEp1 (i := 1) rfl rfl rfl ag_3 rfl (E rfl rfl) (E rfl rfl) rfl rfl (by rw [fr_len]; omega) (nl ?_)
 refine AW.eqS (S' := ([Ent.box s 80 (psC ps (.v (.slice (some ⟨g, 0, none⟩) (k + 1) c))), Ent.row (some ⟨g, 0, none⟩) (k + 1) c 87 7 (pre ++ frC (goF x) a)] ++ frR x a) ++ [Ent.box b5 58 (insCells i), Ent.row A i.args.length c2 39 1 (((i.args.take i.args.length).map (rA x)).map zw)]) (by rw [show (pre ++ frC (goF x) a) = (pre ++ frC x a).set (pre.length + 1) (zi (x.at_ + 1)) from (fr_jump _).symm]; rfl) ?_
 refine rs (ym ?_)
 refine Y1 (Yv.nilChk rfl eV) ?_
 refine yf fo_80_3 ?_
 refine yl ag_4 0 (nl ?_)
 refine AW.cond rfl (fun h6t => ?_) (fun h6f => ?_)
 ·refine AW.region ?_
  refine ym ?_
  refine Y1 (Yv.nilChkEp rfl eV) ?_
  refine Y1 (Yv.fieldEp rfl fo_87_4 eV) ?_
  refine Y1 (Yv.loadEp rfl ag_85 (i := 1) rfl eV (fun hg => fr4)) ?_
  refine AWL.clearRow (i := 4) rfl rfl rfl el_85 rfl (E rfl rfl) (nl ?_)
  refine AW.eqS (S' := ([Ent.box s 80 (psC ps (.v (.slice (some ⟨g, 0, none⟩) (k + 1) c))), Ent.row (some ⟨g, 0, none⟩) (k + 1) c 87 7 (pre ++ frC (callF ps.strict x) a)] ++ frR (callF ps.strict x) a) ++ [Ent.box b5 58 (insCells i), Ent.row A i.args.length c2 39 1 (((i.args.take i.args.length).map (rA x)).map zw)]) (by
   rw [callF_rows, if_pos h6t, rep_bv]
   rfl) ?_
  rw [List.take_length]
  refine AW.freeze 7 9 rfl (B rfl) rfl ?_
  refine rs (ym ?_)
  refine ym ?_
  refine ym ?_
  refine ym ?_
  refine C1 rfl ce_31 (E rfl rfl) (evsC (E rfl rfl) (evsC (E rfl rfl) (evsC (E rfl rfl) (evsC (E rfl rfl) evs0)))) (S1 := [Ent.box s 80 (psC ps (.v (.slice (some ⟨g, 0, none⟩) (k + 1) c))), Ent.row (some ⟨g, 0, none⟩) (k + 1) c 87 7 (pre ++ frC (callF ps.strict x) a)]) (S2 := _) rfl (open31 s ps f (i.args.map (rA x)) i.d (some ⟨g, 0, none⟩) (k + 1) c (pre ++ frC (callF ps.strict x) a) hcf.1 hpf hfo.1 hfo.2.1 hfo.2.2.1 hfo.2.2.2 hcf.2 (by omega)) ?_
  rintro t161 S161 ⟨rfl, g2, c3, a2, rfl⟩
  refine nl ?_
  refine ra ?_
  refine AW.ret (retI (.tmp rfl .nil) ?_)
  rw [hcal]
  simp only [if_neg hk24]
  rw [if_neg (by omega)]
  refine ⟨rfl, g2, c3, a2, ?_⟩
  exact call_sub
 refine AW.eqS (S' := ([Ent.box s 80 (psC ps (.v (.slice (some ⟨g, 0, none⟩) (k + 1) c))), Ent.row (some ⟨g, 0, none⟩) (k + 1) c 87 7 (pre ++ frC (callF ps.strict x) a)] ++ frR (callF ps.strict x) a) ++ [Ent.box b5 58 (insCells i), Ent.row A i.args.length c2 39 1 (((i.args.take i.args.length).map (rA x)).map zw)]) (by
  rw [callF_rows, if_neg (by rw [h6f]; decide)]
  rfl) ?_
 rw [List.take_length]
 refine AW.freeze 7 9 rfl (B rfl) rfl ?_
 refine AW.skip ?_
 refine rs (ym ?_)
 refine ym ?_
 refine ym ?_
 refine ym ?_
 refine C1 rfl ce_31 (E rfl rfl) (evsC (E rfl rfl) (evsC (E rfl rfl) (evsC (E rfl rfl) (evsC (E rfl rfl) evs0)))) (S1 := [Ent.box s 80 (psC ps (.v (.slice (some ⟨g, 0, none⟩) (k + 1) c))), Ent.row (some ⟨g, 0, none⟩) (k + 1) c 87 7 (pre ++ frC (callF ps.strict x) a)]) (S2 := _) rfl (open31 s ps f (i.args.map (rA x)) i.d (some ⟨g, 0, none⟩) (k + 1) c (pre ++ frC (callF ps.strict x) a) hcf.1 hpf hfo.1 hfo.2.1 hfo.2.2.1 hfo.2.2.2 hcf.2 (by omega)) ?_
 rintro t161 S161 ⟨rfl, g2, c3, a2, rfl⟩
 refine nl ?_
 refine ra ?_
 refine AW.ret (retI (.tmp rfl .nil) ?_)
 rw [hcal]
 simp only [if_neg hk24]
 rw [if_neg (by omega)]
 refine ⟨rfl, g2, c3, a2, ?_⟩
 exact call_sub

end Go.Proofs.Ytlfklgganokgdaa

namespace Go.Proofs.Ytlfklgganokgdaa
open Go Go.RowKit

def JQ (s g c k : Nat) (ps : PS) (pre : List T) (x : Fr) (a : FA) (i : Ins) (b : Bool) (S : St) : Prop :=
 match calleeF ps.prog x i with
 | none => b = false ∧ S = [Ent.box s 80 (psC ps (.v (.slice (some ⟨g, 0, none⟩) (k + 1) c))), Ent.row (some ⟨g, 0, none⟩) (k + 1) c 87 7 (pre ++ frC x a)] ++ frR x a
 | some f => if i.kind = 24 ∨ i.kind = 25 then b = true ∧ ∃ g' c' a', S = [Ent.box s 80 (psC ps (.v (.slice (some ⟨g', 0, none⟩) (k + 1) c'))), Ent.row (some ⟨g', 0, none⟩) (k + 1) c' 87 7 (pre ++ frC (openFr (ps.prog.funs.getD f default) f (argsF x i) x.d) a')] ++ frR (openFr (ps.prog.funs.getD f default) f (argsF x i) x.d) a'
  else if 1048576 ≤ k + 1 then b = false ∧ S = [Ent.box s 80 (psC ps (.v (.slice (some ⟨g, 0, none⟩) (k + 1) c))), Ent.row (some ⟨g, 0, none⟩) (k + 1) c 87 7 (pre ++ frC x a)] ++ frR x a
  else b = true ∧ ∃ g' c' a', S = [Ent.box s 80 (psC ps (.v (.slice (some ⟨g', 0, none⟩) (k + 2) c'))), Ent.row (some ⟨g', 0, none⟩) (k + 2) c' 87 7 (pre ++ frC (callF ps.strict x) a ++ frC (openFr (ps.prog.funs.getD f default) f (argsF x i) i.d) a')] ++ frR (openFr (ps.prog.funs.getD f default) f (argsF x i) i.d) a' ++ frR (callF ps.strict x) a
theorem jumpsCall (s g c k : Nat) (ps : PS) (pre : List T) (x : Fr) (a : FA) (i : Ins) (hx : FrOk x) (hpre : pre.length = k * 7) (hk : k < 1048576) (hkd : i.kind = 22 ∨ i.kind = 23 ∨ i.kind = 24 ∨ i.kind = 25) (hp : ProgOk ps.prog) (hpf : ps.prog.funs.length ≤ 1048576) (ha : (hasF i.kind).a = true → 0 ≤ i.a ∧ i.a < (x.nr : Int)) (har : ∀ r ∈ i.args, 0 ≤ r ∧ r < (x.nr : Int)) (hg : i.args.length ≤ 1048576) (hf : (hasF i.kind).f = true → (0 ≤ i.f ∧ i.f.toNat < ps.prog.funs.length) ∧ (i.args.length : Int) = parF ps.prog i.f) (hat : 0 ≤ x.at_ ∧ x.at_ ≤ 4611686018427387904) : ACalls Try.prog 52 [.v (.pointer (some ⟨s, 0, none⟩)), .ep (.slice (some ⟨g, 0, none⟩) (k + 1) c) pre.length, .agg (insCells i)] ([Ent.box s 80 (psC ps (.v (.slice (some ⟨g, 0, none⟩) (k + 1) c))), Ent.row (some ⟨g, 0, none⟩) (k + 1) c 87 7 (pre ++ frC x a)] ++ frR x a) (fun t S => ∃ b, t = bv b ∧ JQ s g c k ps pre x a i b S) :=
 (jumpsCall_ s g c k ps pre x a i hx hpre hk hkd hp hpf ha har hg hf hat).less fun t S' h => by
  unfold JQ
  cases hc : calleeF ps.prog x i with
  | none =>
   rw [hc] at h
   exact ⟨_, h.2, false, h.1, rfl, rfl⟩
  | some f =>
   rw [hc] at h
   dsimp only at h ⊢
   split at h
   ·rename_i h24
    simp only [if_pos h24]
    obtain ⟨h1, g', c', a', h2⟩ := h
    exact ⟨_, h2, true, h1, rfl, g', c', a', rfl⟩
   ·rename_i h24
    simp only [if_neg h24]
    split at h
    ·rename_i hm
     simp only [if_pos hm]
     exact ⟨_, h.2, false, h.1, rfl, rfl⟩
    ·rename_i hm
     simp only [if_neg hm]
     obtain ⟨h1, g', c', a', h2⟩ := h
     exact ⟨_, h2, true, h1, rfl, g', c', a', rfl⟩
set_option maxHeartbeats 16000000 in
theorem do32C_ (s g c k : Nat) (ps : PS) (pre : List T) (x : Fr) (a : FA) (i : Ins) (hx : FrOk x) (hpre : pre.length = k * 7) (hk : k < 1048576) (hkd : i.kind = 22 ∨ i.kind = 23 ∨ i.kind = 24 ∨ i.kind = 25) (hp : ProgOk ps.prog) (hpf : ps.prog.funs.length ≤ 1048576) (ha : (hasF i.kind).a = true → 0 ≤ i.a ∧ i.a < (x.nr : Int)) (har : ∀ r ∈ i.args, 0 ≤ r ∧ r < (x.nr : Int)) (hg : i.args.length ≤ 1048576) (hf : (hasF i.kind).f = true → (0 ≤ i.f ∧ i.f.toNat < ps.prog.funs.length) ∧ (i.args.length : Int) = parF ps.prog i.f) (hr : ∀ r ∈ readsF i, 0 ≤ r ∧ r < (x.nr : Int)) (hat : 0 ≤ x.at_ ∧ x.at_ ≤ 4611686018427387904) :
    ACalls Try.prog 32 [.v (.pointer (some ⟨s, 0, none⟩)), .ep (.slice (some ⟨g, 0, none⟩) (k + 1) c) (pre).length, .agg (insCells i)] (([Ent.box s 80 (psC ps (.v (.slice (some ⟨g, 0, none⟩) (k + 1) c))), Ent.row (some ⟨g, 0, none⟩) (k + 1) c 87 7 (pre ++ frC x a)] ++ frR x a) ++ ([] : St)) (fun t S => (okS x.set (readsF i) = false ∧ t = bv false ∧ ([Ent.box s 80 (psC ps (.v (.slice (some ⟨g, 0, none⟩) (k + 1) c))), Ent.row (some ⟨g, 0, none⟩) (k + 1) c 87 7 (pre ++ frC x a)] ++ frR x a).Sublist S) ∨ (okS x.set (readsF i) = true ∧ ∃ b S', t = bv b ∧ JQ s g c k ps pre x a i b S' ∧ S'.Sublist S)) := by
 refine ACalls.intro Try.func32 rfl Try.ntmps32 nB rfl fun X w0 => ?_
 refine rs ?_
 refine AWL.boxOp rfl rfl (B rfl) rfl (E rfl rfl) rfl (fun b4 => ?_)
 refine AWL.boxOp rfl rfl (B rfl) rfl (E rfl rfl) rfl (fun b5 => ?_)
 refine ya ?_
 refine rs ?_
 refine AWL.allocOp rfl rfl (B rfl) rfl zc_4 (fun b7 => ?_)
 refine AWL.storeBox (i := 8) rfl rfl rfl ag_4 rfl (E rfl rfl) (E rfl rfl) rfl rfl nB (nl ?_)
 refine rs (Y1 (Yv.loadBoxA rfl ag_58 (i := 7) rfl eV rfl rfl) ?_)
 refine Y1 (Yv.makeFunc rfl evs0 rfl (evsC eV (evsC eV evs0)) rfl) ?_
 refine AWL.perm (S' := [Ent.box b7 4 [bv (true)], Ent.box b4 83 [.ep (.slice (some ⟨g, 0, none⟩) (k + 1) c) (pre).length], Ent.row (some ⟨g, 0, none⟩) (k + 1) c 87 7 (pre ++ frC x a), Ent.row a.t x.nr x.nr 4 1 (x.set.map bv)] ++ ([Ent.box s 80 (psC ps (.v (.slice (some ⟨g, 0, none⟩) (k + 1) c))), Ent.row a.r x.nr x.nr 39 1 (x.r.map zw), Ent.row a.s x.ns x.ns 39 1 (x.slot.map zw), Ent.row a.h x.ns x.ns 4 1 (x.there.map bv), Ent.box b5 58 (insCells i)] ++ ([] : St))) pmA0 ?_
 refine C1 rfl ce_49 (E rfl rfl) (evsC (E rfl rfl) (evsC (E rfl rfl) evs0)) (S1 := [Ent.box b7 4 [bv (true)], Ent.box b4 83 [.ep (.slice (some ⟨g, 0, none⟩) (k + 1) c) (pre).length], Ent.row (some ⟨g, 0, none⟩) (k + 1) c 87 7 (pre ++ frC x a), Ent.row a.t x.nr x.nr 4 1 (x.set.map bv)]) (S2 := _) rfl (reads49 b7 b4 g (k + 1) c pre x a true i hx.t hg hr) ?_
 rintro t14 S14 ⟨rfl, rfl⟩
 refine AWL.perm (S' := ([Ent.box s 80 (psC ps (.v (.slice (some ⟨g, 0, none⟩) (k + 1) c))), Ent.row (some ⟨g, 0, none⟩) (k + 1) c 87 7 (pre ++ frC x a)] ++ frR x a) ++ ([Ent.box b4 83 [.ep (.slice (some ⟨g, 0, none⟩) (k + 1) c) (pre).length], Ent.box b5 58 (insCells i), Ent.box b7 4 [bv (okS x.set (readsF i))]] ++ ([] : St))) pmB0 (nl ?_)
 refine AW.seq ?_
 refine rs (yl ag_4 8 ?_)
 refine Y1 (Yv.not rfl eV) (nl ?_)
 refine AW.cond rfl (fun h0t => ?_) (fun h0f => ?_)
 ·refine ra ?_
  refine AW.ret (retI (.tmp rfl .nil) ?_)
  exact .inl ⟨by simpa using h0t, rfl, List.sublist_append_left _ _⟩
 have hok : okS x.set (readsF i) = true := by simpa using h0f
 refine AW.skip ?_
 refine rs (Y1 (Yv.assign rfl eV) ?_)
 refine ya ?_
 refine AW.seq ?_
 refine rs (yf fo_58_0 ?_)
 refine yl ag_3 7 (nl ?_)
 refine AW.block ?_
 refine rs (Y1 (Yv.eql rfl eV eV) ?_)
 refine ya ?_
 refine AW.cond rfl (fun h1t => ?_) (fun h1f => ?_)
 ·try replace h1t := odt h1t
  exfalso; omega
 try replace h1f := odf h1f
 refine rs (Y1 (Yv.eql rfl eV eV) ?_)
 refine ya ?_
 refine AW.cond rfl (fun h2t => ?_) (fun h2f => ?_)
 ·try replace h2t := odt h2t
  exfalso; omega
 try replace h2f := odf h2f
 refine AW.seq ?_
 refine rs (Y1 (Yv.eql rfl eV eV) ?_)
 refine ya ?_
 refine AW.cond rfl (fun h3t => ?_) (fun h3f => ?_)
 ·try replace h3t := odt h3t
  refine AW.skip ?_
  refine AW.cond rfl (fun h4t => ?_) (fun h4f => ?_)
  ·try replace h4t := odt h4t
   refine rs (ym ?_)
   refine yl ag_83 6 ?_
   refine Y1 (Yv.loadBoxA rfl ag_58 (i := 7) rfl eV rfl rfl) ?_
   refine C1 rfl ce_52 (E rfl rfl) (evsC (E rfl rfl) (evsC (E rfl rfl) (evsC (E rfl rfl) evs0))) (S1 := ([Ent.box s 80 (psC ps (.v (.slice (some ⟨g, 0, none⟩) (k + 1) c))), Ent.row (some ⟨g, 0, none⟩) (k + 1) c 87 7 (pre ++ frC x a)] ++ frR x a)) (S2 := _) rfl (jumpsCall s g c k ps pre x a i hx hpre hk hkd hp hpf ha har hg hf hat) ?_
   rintro t97 S97 ⟨b, rfl, hJ⟩
   refine ya ?_
   refine AW.ret (retI (.tmp rfl .nil) ?_)
   exact .inr ⟨hok, b, _, rfl, hJ, List.sublist_append_left _ _⟩
  try replace h4f := odf h4f
  exfalso; omega
 try replace h3f := odf h3f
 refine rs (Y1 (Yv.eql rfl eV eV) ?_)
 refine ya ?_
 refine AW.cond rfl (fun h5t => ?_) (fun h5f => ?_)
 ·try replace h5t := odt h5t
  refine AW.skip ?_
  refine AW.cond rfl (fun h6t => ?_) (fun h6f => ?_)
  ·try replace h6t := odt h6t
   refine rs (ym ?_)
   refine yl ag_83 6 ?_
   refine Y1 (Yv.loadBoxA rfl ag_58 (i := 7) rfl eV rfl rfl) ?_
   refine C1 rfl ce_52 (E rfl rfl) (evsC (E rfl rfl) (evsC (E rfl rfl) (evsC (E rfl rfl) evs0))) (S1 := ([Ent.box s 80 (psC ps (.v (.slice (some ⟨g, 0, none⟩) (k + 1) c))), Ent.row (some ⟨g, 0, none⟩) (k + 1) c 87 7 (pre ++ frC x a)] ++ frR x a)) (S2 := _) rfl (jumpsCall s g c k ps pre x a i hx hpre hk hkd hp hpf ha har hg hf hat) ?_
   rintro t97 S97 ⟨b, rfl, hJ⟩
   refine ya ?_
   refine AW.ret (retI (.tmp rfl .nil) ?_)
   exact .inr ⟨hok, b, _, rfl, hJ, List.sublist_append_left _ _⟩
  try replace h6f := odf h6f
  exfalso; omega
 try replace h5f := odf h5f
 refine rs (Y1 (Yv.eql rfl eV eV) ?_)
 refine ya ?_
 refine AW.cond rfl (fun h7t => ?_) (fun h7f => ?_)
 ·try replace h7t := odt h7t
  refine AW.skip ?_
  refine AW.cond rfl (fun h8t => ?_) (fun h8f => ?_)
  ·try replace h8t := odt h8t
   refine rs (ym ?_)
   refine yl ag_83 6 ?_
   refine Y1 (Yv.loadBoxA rfl ag_58 (i := 7) rfl eV rfl rfl) ?_
   refine C1 rfl ce_52 (E rfl rfl) (evsC (E rfl rfl) (evsC (E rfl rfl) (evsC (E rfl rfl) evs0))) (S1 := ([Ent.box s 80 (psC ps (.v (.slice (some ⟨g, 0, none⟩) (k + 1) c))), Ent.row (some ⟨g, 0, none⟩) (k + 1) c 87 7 (pre ++ frC x a)] ++ frR x a)) (S2 := _) rfl (jumpsCall s g c k ps pre x a i hx hpre hk hkd hp hpf ha har hg hf hat) ?_
   rintro t97 S97 ⟨b, rfl, hJ⟩
   refine ya ?_
   refine AW.ret (retI (.tmp rfl .nil) ?_)
   exact .inr ⟨hok, b, _, rfl, hJ, List.sublist_append_left _ _⟩
  try replace h8f := odf h8f
  exfalso; omega
 try replace h7f := odf h7f
 refine rs (Y1 (Yv.eql rfl eV eV) ?_)
 refine ya ?_
 refine AW.cond rfl (fun h9t => ?_) (fun h9f => ?_)
 ·try replace h9t := odt h9t
  refine AW.skip ?_
  refine AW.cond rfl (fun h10t => ?_) (fun h10f => ?_)
  ·try replace h10t := odt h10t
   refine rs (ym ?_)
   refine yl ag_83 6 ?_
   refine Y1 (Yv.loadBoxA rfl ag_58 (i := 7) rfl eV rfl rfl) ?_
   refine C1 rfl ce_52 (E rfl rfl) (evsC (E rfl rfl) (evsC (E rfl rfl) (evsC (E rfl rfl) evs0))) (S1 := ([Ent.box s 80 (psC ps (.v (.slice (some ⟨g, 0, none⟩) (k + 1) c))), Ent.row (some ⟨g, 0, none⟩) (k + 1) c 87 7 (pre ++ frC x a)] ++ frR x a)) (S2 := _) rfl (jumpsCall s g c k ps pre x a i hx hpre hk hkd hp hpf ha har hg hf hat) ?_
   rintro t97 S97 ⟨b, rfl, hJ⟩
   refine ya ?_
   refine AW.ret (retI (.tmp rfl .nil) ?_)
   exact .inr ⟨hok, b, _, rfl, hJ, List.sublist_append_left _ _⟩
  try replace h10f := odf h10f
  exfalso; omega
 try replace h9f := odf h9f
 refine AW.region ?_
 refine Y1 (Yv.eql rfl eV eV) ?_
 refine ya ?_
 refine AW.cond rfl (fun h11t => ?_) (fun h11f => ?_)
 ·try replace h11t := odt h11t
  exfalso; omega
 try replace h11f := odf h11f
 exfalso; omega

theorem do32C (s g c k : Nat) (ps : PS) (pre : List T) (x : Fr) (a : FA) (i : Ins) (hx : FrOk x) (hpre : pre.length = k * 7) (hk : k < 1048576) (hkd : i.kind = 22 ∨ i.kind = 23 ∨ i.kind = 24 ∨ i.kind = 25) (hp : ProgOk ps.prog) (hpf : ps.prog.funs.length ≤ 1048576) (ha : (hasF i.kind).a = true → 0 ≤ i.a ∧ i.a < (x.nr : Int)) (har : ∀ r ∈ i.args, 0 ≤ r ∧ r < (x.nr : Int)) (hg : i.args.length ≤ 1048576) (hf : (hasF i.kind).f = true → (0 ≤ i.f ∧ i.f.toNat < ps.prog.funs.length) ∧ (i.args.length : Int) = parF ps.prog i.f) (hr : ∀ r ∈ readsF i, 0 ≤ r ∧ r < (x.nr : Int)) (hat : 0 ≤ x.at_ ∧ x.at_ ≤ 4611686018427387904) : ACalls Try.prog 32 [.v (.pointer (some ⟨s, 0, none⟩)), .ep (.slice (some ⟨g, 0, none⟩) (k + 1) c) pre.length, .agg (insCells i)] ([Ent.box s 80 (psC ps (.v (.slice (some ⟨g, 0, none⟩) (k + 1) c))), Ent.row (some ⟨g, 0, none⟩) (k + 1) c 87 7 (pre ++ frC x a)] ++ frR x a) (fun t S => (okS x.set (readsF i) = false ∧ t = bv false ∧ S = [Ent.box s 80 (psC ps (.v (.slice (some ⟨g, 0, none⟩) (k + 1) c))), Ent.row (some ⟨g, 0, none⟩) (k + 1) c 87 7 (pre ++ frC x a)] ++ frR x a) ∨ (okS x.set (readsF i) = true ∧ ∃ b, t = bv b ∧ JQ s g c k ps pre x a i b S)) := by
 have h := do32C_ s g c k ps pre x a i hx hpre hk hkd hp hpf ha har hg hf hr hat
 rw [List.append_nil] at h
 exact h.less fun t S' h => by
  rcases h with ⟨h1, h2, h3⟩ | ⟨h1, b, S2, h2, h3, h4⟩
  ·exact ⟨_, h3, .inl ⟨h1, h2, rfl⟩⟩
  ·exact ⟨S2, h4, .inr ⟨h1, b, h2, h3⟩⟩
theorem pmA4 {α : Type} {a0 a1 a2 a3 a4 a5 a6 a7 a8 a9 a10 a11 a12 : α} {Z : List α} : (a12 :: a10 :: a1 :: a4 :: a0 :: a2 :: a3 :: a5 :: a11 :: a6 :: a7 :: a8 :: a9 :: Z).Perm (a0 :: a1 :: a2 :: a3 :: a4 :: a5 :: a6 :: a7 :: a8 :: a9 :: a10 :: a11 :: a12 :: Z) :=
 (((((((((((((((((((((((((((((((List.Perm.refl _).cons a9)).cons a8)).cons a7)).cons a6)).cons a11)).trans (List.perm_middle (a := a11) (l₁ := [a6, a7, a8, a9]) (l₂ := Z)).symm).cons a5)).cons a3)).cons a2)).cons a0)).cons a4)).trans (List.perm_middle (a := a4) (l₁ := [a0, a2, a3]) (l₂ := a5 :: a6 :: a7 :: a8 :: a9 :: a11 :: Z)).symm).cons a1)).trans (List.perm_middle (a := a1) (l₁ := [a0]) (l₂ := a2 :: a3 :: a4 :: a5 :: a6 :: a7 :: a8 :: a9 :: a11 :: Z)).symm).cons a10)).trans (List.perm_middle (a := a10) (l₁ := [a0, a1, a2, a3, a4, a5, a6, a7, a8, a9]) (l₂ := a11 :: Z)).symm).cons a12)).trans (List.perm_middle (a := a12) (l₁ := [a0, a1, a2, a3, a4, a5, a6, a7, a8, a9, a10, a11]) (l₂ := Z)).symm
theorem pmB4 {α : Type} {a0 a1 a2 a3 a4 a5 a6 a7 a8 a9 a10 a11 a12 : α} {Z : List α} : (a4 :: a2 :: a5 :: a6 :: a3 :: a7 :: a1 :: a8 :: a0 :: a9 :: a10 :: a11 :: a12 :: Z).Perm (a0 :: a1 :: a2 :: a3 :: a4 :: a5 :: a6 :: a7 :: a8 :: a9 :: a10 :: a11 :: a12 :: Z) :=
 ((((((((((((((((((((((((((((((((((List.Perm.refl _).cons a12)).cons a11)).cons a10)).cons a9)).cons a0)).cons a8)).trans (List.perm_middle (a := a8) (l₁ := [a0]) (l₂ := a9 :: a10 :: a11 :: a12 :: Z)).symm).cons a1)).trans (List.perm_middle (a := a1) (l₁ := [a0]) (l₂ := a8 :: a9 :: a10 :: a11 :: a12 :: Z)).symm).cons a7)).trans (List.perm_middle (a := a7) (l₁ := [a0, a1]) (l₂ := a8 :: a9 :: a10 :: a11 :: a12 :: Z)).symm).cons a3)).trans (List.perm_middle (a := a3) (l₁ := [a0, a1]) (l₂ := a7 :: a8 :: a9 :: a10 :: a11 :: a12 :: Z)).symm).cons a6)).trans (List.perm_middle (a := a6) (l₁ := [a0, a1, a3]) (l₂ := a7 :: a8 :: a9 :: a10 :: a11 :: a12 :: Z)).symm).cons a5)).trans (List.perm_middle (a := a5) (l₁ := [a0, a1, a3]) (l₂ := a6 :: a7 :: a8 :: a9 :: a10 :: a11 :: a12 :: Z)).symm).cons a2)).trans (List.perm_middle (a := a2) (l₁ := [a0, a1]) (l₂ := a3 :: a5 :: a6 :: a7 :: a8 :: a9 :: a10 :: a11 :: a12 :: Z)).symm).cons a4)).trans (List.perm_middle (a := a4) (l₁ := [a0, a1, a2, a3]) (l₂ := a5 :: a6 :: a7 :: a8 :: a9 :: a10 :: a11 :: a12 :: Z)).symm
theorem pmC {α : Type} {a0 a1 a2 a3 a4 a5 a6 a7 a8 a9 a10 a11 a12 : α} {Z : List α} : (a0 :: a1 :: a9 :: a10 :: a11 :: a12 :: a2 :: a3 :: a4 :: a5 :: a6 :: a7 :: a8 :: Z).Perm (a0 :: a1 :: a2 :: a3 :: a4 :: a5 :: a6 :: a7 :: a8 :: a9 :: a10 :: a11 :: a12 :: Z) :=
 ((((((((((((((((((((((((((((((List.Perm.refl _).cons a8)).cons a7)).cons a6)).cons a5)).cons a4)).cons a3)).cons a2)).cons a12)).trans (List.perm_middle (a := a12) (l₁ := [a2, a3, a4, a5, a6, a7, a8]) (l₂ := Z)).symm).cons a11)).trans (List.perm_middle (a := a11) (l₁ := [a2, a3, a4, a5, a6, a7, a8]) (l₂ := a12 :: Z)).symm).cons a10)).trans (List.perm_middle (a := a10) (l₁ := [a2, a3, a4, a5, a6, a7, a8]) (l₂ := a11 :: a12 :: Z)).symm).cons a9)).trans (List.perm_middle (a := a9) (l₁ := [a2, a3, a4, a5, a6, a7, a8]) (l₂ := a10 :: a11 :: a12 :: Z)).symm).cons a1)).cons a0)
set_option maxHeartbeats 16000000 in
theorem do32RM_ (s g c k : Nat) (ps : PS) (pre : List T) (y : Fr) (b : FA) (x : Fr) (a : FA) (i : Ins) (hpre : pre.length = k * 7) (hk7 : k ≤ 1048576) (hy : FrOk y) (hd : 0 ≤ x.d ∧ x.d < (y.nr : Int)) (hx : FrOk x) (hk : i.kind = 26) (ha : 0 ≤ i.a ∧ i.a < (x.nr : Int)) (hr : ∀ r ∈ readsF i, 0 ≤ r ∧ r < (x.nr : Int)) (hg : i.args.length ≤ 1048576) :
    ACalls Try.prog 32 [.v (.pointer (some ⟨s, 0, none⟩)), .ep (.slice (some ⟨g, 0, none⟩) (k + 2) c) ((pre ++ frC y b)).length, .agg (insCells i)] (([Ent.box s 80 (psC ps (.v (.slice (some ⟨g, 0, none⟩) (k + 2) c))), Ent.row (some ⟨g, 0, none⟩) (k + 2) c 87 7 ((pre ++ frC y b) ++ frC x a)] ++ frR x a) ++ frR y b) (fun t S => (okS x.set (readsF i) = false ∧ t = bv false ∧ (([Ent.box s 80 (psC ps (.v (.slice (some ⟨g, 0, none⟩) (k + 2) c))), Ent.row (some ⟨g, 0, none⟩) (k + 2) c 87 7 ((pre ++ frC y b) ++ frC x a)] ++ frR x a) ++ frR y b).Sublist S) ∨ (okS x.set (readsF i) = true ∧ t = bv true ∧ ([Ent.box s 80 (psC ps (.v (.slice (some ⟨g, 0, none⟩) (k + 1) c))), Ent.row (some ⟨g, 0, none⟩) (k + 1) c 87 7 (pre ++ frC y b)] ++ frR (setD y x.d (rA x i.a)) b).Sublist S)) := by
 refine ACalls.intro Try.func32 rfl Try.ntmps32 nB rfl fun X w0 => ?_
 refine rs ?_
 refine AWL.boxOp rfl rfl (B rfl) rfl (E rfl rfl) rfl (fun b4 => ?_)
 refine AWL.boxOp rfl rfl (B rfl) rfl (E rfl rfl) rfl (fun b5 => ?_)
 refine ya ?_
 refine rs ?_
 refine AWL.allocOp rfl rfl (B rfl) rfl zc_4 (fun b7 => ?_)
 refine AWL.storeBox (i := 12) rfl rfl rfl ag_4 rfl (E rfl rfl) (E rfl rfl) rfl rfl nB (nl ?_)
 refine rs (Y1 (Yv.loadBoxA rfl ag_58 (i := 11) rfl eV rfl rfl) ?_)
 refine Y1 (Yv.makeFunc rfl evs0 rfl (evsC eV (evsC eV evs0)) rfl) ?_
 refine AWL.perm (S' := [Ent.box b7 4 [bv (true)], Ent.box b4 83 [.ep (.slice (some ⟨g, 0, none⟩) (k + 2) c) ((pre ++ frC y b)).length], Ent.row (some ⟨g, 0, none⟩) (k + 2) c 87 7 ((pre ++ frC y b) ++ frC x a), Ent.row a.t x.nr x.nr 4 1 (x.set.map bv)] ++ ([Ent.box s 80 (psC ps (.v (.slice (some ⟨g, 0, none⟩) (k + 2) c))), Ent.row a.r x.nr x.nr 39 1 (x.r.map zw), Ent.row a.s x.ns x.ns 39 1 (x.slot.map zw), Ent.row a.h x.ns x.ns 4 1 (x.there.map bv), Ent.box b5 58 (insCells i)] ++ frR y b)) pmA4 ?_
 refine C1 rfl ce_49 (E rfl rfl) (evsC (E rfl rfl) (evsC (E rfl rfl) evs0)) (S1 := [Ent.box b7 4 [bv (true)], Ent.box b4 83 [.ep (.slice (some ⟨g, 0, none⟩) (k + 2) c) ((pre ++ frC y b)).length], Ent.row (some ⟨g, 0, none⟩) (k + 2) c 87 7 ((pre ++ frC y b) ++ frC x a), Ent.row a.t x.nr x.nr 4 1 (x.set.map bv)]) (S2 := _) rfl (reads49 b7 b4 g (k + 2) c (pre ++ frC y b) x a true i hx.t hg hr) ?_
 rintro t14 S14 ⟨rfl, rfl⟩
 refine AWL.perm (S' := ([Ent.box s 80 (psC ps (.v (.slice (some ⟨g, 0, none⟩) (k + 2) c))), Ent.row (some ⟨g, 0, none⟩) (k + 2) c 87 7 ((pre ++ frC y b) ++ frC x a)] ++ frR x a) ++ ([Ent.box b4 83 [.ep (.slice (some ⟨g, 0, none⟩) (k + 2) c) ((pre ++ frC y b)).length], Ent.box b5 58 (insCells i), Ent.box b7 4 [bv (okS x.set (readsF i))]] ++ frR y b)) pmB4 (nl ?_)
 refine AW.seq ?_
 refine rs (yl ag_4 8 ?_)
 refine Y1 (Yv.not rfl eV) (nl ?_)
 refine AW.cond rfl (fun h0t => ?_) (fun h0f => ?_)
 ·refine ra ?_
  refine AW.ret (retI (.tmp rfl .nil) ?_)
  exact .inl ⟨by simpa using h0t, rfl, sub_mid _ _ _⟩
 have hok : okS x.set (readsF i) = true := by simpa using h0f
 refine AW.skip ?_
 refine rs (Y1 (Yv.assign rfl eV) ?_)
 refine ya ?_
 refine AW.seq ?_
 refine rs (yf fo_58_0 ?_)
 refine yl ag_3 7 (nl ?_)
 refine AW.block ?_
 refine rs (Y1 (Yv.eql rfl eV eV) ?_)
 refine ya ?_
 refine AW.cond rfl (fun h1t => ?_) (fun h1f => ?_)
 ·try replace h1t := odt h1t
  exfalso; omega
 try replace h1f := odf h1f
 refine rs (Y1 (Yv.eql rfl eV eV) ?_)
 refine ya ?_
 refine AW.cond rfl (fun h2t => ?_) (fun h2f => ?_)
 ·try replace h2t := odt h2t
  exfalso; omega
 try replace h2f := odf h2f
 refine AW.seq ?_
 refine rs (Y1 (Yv.eql rfl eV eV) ?_)
 refine ya ?_
 refine AW.cond rfl (fun h3t => ?_) (fun h3f => ?_)
 ·try replace h3t := odt h3t
  exfalso; omega
 try replace h3f := odf h3f
 refine rs (Y1 (Yv.eql rfl eV eV) ?_)
 refine ya ?_
 refine AW.cond rfl (fun h4t => ?_) (fun h4f => ?_)
 ·try replace h4t := odt h4t
  exfalso; omega
 try replace h4f := odf h4f
 refine rs (Y1 (Yv.eql rfl eV eV) ?_)
 refine ya ?_
 refine AW.cond rfl (fun h5t => ?_) (fun h5f => ?_)
 ·try replace h5t := odt h5t
  exfalso; omega
 try replace h5f := odf h5f
 refine rs (Y1 (Yv.eql rfl eV eV) ?_)
 refine ya ?_
 refine AW.cond rfl (fun h6t => ?_) (fun h6f => ?_)
 ·try replace h6t := odt h6t
  exfalso; omega
 try replace h6f := odf h6f
 refine AW.region ?_
 refine Y1 (Yv.eql rfl eV eV) ?_
 refine ya ?_
 refine AW.cond rfl (fun h7t => ?_) (fun h7f => ?_)
 ·try replace h7t := odt h7t
  refine rs (ym ?_)
  refine yl ag_83 6 ?_
  refine Y1 (Yv.loadBoxA rfl ag_58 (i := 7) rfl eV rfl rfl) ?_
  refine AWL.perm (S' := (([Ent.box s 80 (psC ps (.v (.slice (some ⟨g, 0, none⟩) (k + 2) c))), Ent.row (some ⟨g, 0, none⟩) (k + 2) c 87 7 (pre ++ frC y b ++ frC x a)] ++ frR y b) ++ frR x a) ++ [Ent.box b4 83 [.ep (.slice (some ⟨g, 0, none⟩) (k + 2) c) (pre ++ frC y b).length], Ent.box b5 58 (insCells i), Ent.box b7 4 [bv (okS x.set (readsF i))]]) pmC ?_
  refine C1 rfl ce_52 (E rfl rfl) (evsC (E rfl rfl) (evsC (E rfl rfl) (evsC (E rfl rfl) evs0))) (S1 := (([Ent.box s 80 (psC ps (.v (.slice (some ⟨g, 0, none⟩) (k + 2) c))), Ent.row (some ⟨g, 0, none⟩) (k + 2) c 87 7 (pre ++ frC y b ++ frC x a)] ++ frR y b) ++ frR x a)) (S2 := _) rfl (jumpsRetMore s g c k ps pre y b x a i hpre hk7 hy hd hx hk ha) ?_
  rintro t97 S97 ⟨rfl, rfl⟩
  refine ya ?_
  refine AW.ret (retI (.tmp rfl .nil) ?_)
  exact .inr ⟨hok, rfl, (List.sublist_append_left _ _).trans (List.sublist_append_left _ _)⟩
 try replace h7f := odf h7f
 exfalso; omega

theorem do32RM (s g c k : Nat) (ps : PS) (pre : List T) (y : Fr) (b : FA) (x : Fr) (a : FA) (i : Ins) (hpre : pre.length = k * 7) (hk7 : k ≤ 1048576) (hy : FrOk y) (hd : 0 ≤ x.d ∧ x.d < (y.nr : Int)) (hx : FrOk x) (hk : i.kind = 26) (ha : 0 ≤ i.a ∧ i.a < (x.nr : Int)) (hr : ∀ r ∈ readsF i, 0 ≤ r ∧ r < (x.nr : Int)) (hg : i.args.length ≤ 1048576) : ACalls Try.prog 32 [.v (.pointer (some ⟨s, 0, none⟩)), .ep (.slice (some ⟨g, 0, none⟩) (k + 2) c) (pre ++ frC y b).length, .agg (insCells i)] (([Ent.box s 80 (psC ps (.v (.slice (some ⟨g, 0, none⟩) (k + 2) c))), Ent.row (some ⟨g, 0, none⟩) (k + 2) c 87 7 ((pre ++ frC y b) ++ frC x a)] ++ frR x a) ++ frR y b) (fun t S => (okS x.set (readsF i) = false ∧ t = bv false ∧ S = ([Ent.box s 80 (psC ps (.v (.slice (some ⟨g, 0, none⟩) (k + 2) c))), Ent.row (some ⟨g, 0, none⟩) (k + 2) c 87 7 ((pre ++ frC y b) ++ frC x a)] ++ frR x a) ++ frR y b) ∨ (okS x.set (readsF i) = true ∧ t = bv true ∧ S = [Ent.box s 80 (psC ps (.v (.slice (some ⟨g, 0, none⟩) (k + 1) c))), Ent.row (some ⟨g, 0, none⟩) (k + 1) c 87 7 (pre ++ frC y b)] ++ frR (setD y x.d (rA x i.a)) b)) :=
 (do32RM_ s g c k ps pre y b x a i hpre hk7 hy hd hx hk ha hr hg).less fun t S' h => by
  rcases h with ⟨h1, h2, h3⟩ | ⟨h1, h2, h3⟩
  ·exact ⟨_, h3, .inl ⟨h1, h2, rfl⟩⟩
  ·exact ⟨_, h3, .inr ⟨h1, h2, rfl⟩⟩
end Go.Proofs.Ytlfklgganokgdaa

namespace Go.Proofs.Ytlfklgganokgdaa
open Go Go.RowKit

theorem pmAv {α : Type} {a0 a1 a2 a3 a4 a5 a6 a7 a8 : α} {Z : List α} : (a0 :: a2 :: a4 :: a7 :: a3 :: a5 :: a6 :: a8 :: a1 :: Z).Perm (a0 :: a1 :: a2 :: a3 :: a4 :: a5 :: a6 :: a7 :: a8 :: Z) :=
 (((((((((((((((((((((((((List.Perm.refl _).cons a1)).cons a8)).trans (List.perm_middle (a := a8) (l₁ := [a1]) (l₂ := Z)).symm).cons a6)).trans (List.perm_middle (a := a6) (l₁ := [a1]) (l₂ := a8 :: Z)).symm).cons a5)).trans (List.perm_middle (a := a5) (l₁ := [a1]) (l₂ := a6 :: a8 :: Z)).symm).cons a3)).trans (List.perm_middle (a := a3) (l₁ := [a1]) (l₂ := a5 :: a6 :: a8 :: Z)).symm).cons a7)).trans (List.perm_middle (a := a7) (l₁ := [a1, a3, a5, a6]) (l₂ := a8 :: Z)).symm).cons a4)).trans (List.perm_middle (a := a4) (l₁ := [a1, a3]) (l₂ := a5 :: a6 :: a7 :: a8 :: Z)).symm).cons a2)).trans (List.perm_middle (a := a2) (l₁ := [a1]) (l₂ := a3 :: a4 :: a5 :: a6 :: a7 :: a8 :: Z)).symm).cons a0)
theorem toMem {X : Ent} {W E : St} : ((X :: E) ++ W).Perm (X :: (W ++ E)) := (List.perm_append_comm (l₁ := E) (l₂ := W)).cons X
theorem toTen {A B C : St} {x : Ent} : (A ++ (B ++ (x :: C))).Perm ((A ++ (B ++ C)) ++ [x]) := by
 rw [List.append_assoc, List.append_assoc]
 exact ((List.perm_append_singleton x C).symm.append_left B).append_left A
theorem sub_mid2 {α : Type} (a b c : List α) (x : α) : (a ++ c).Sublist (a ++ (b ++ (x :: c))) := ((List.sublist_cons_self x c).trans (List.sublist_append_right b _)).append_left a
set_option maxHeartbeats 16000000 in
theorem do32St_ (s g n c pg : Nat) (ps : PS) (pre : List T) (x : Fr) (a : FA) (i : Ins) (l : List Pg) (hx : FrOk x) (hpg : ps.pages = mapT pg) (hl : PgOk l) (hd : ps.prog.data.length ≤ 1048576) (hz0 : 0 ≤ ps.prog.zero) (hz1 : ps.prog.zero ≤ 268435456) (hk : i.kind = 18) (ha : (hasF i.kind).a = true → 0 ≤ i.a ∧ i.a < (x.nr : Int)) (hb : (hasF i.kind).b = true → 0 ≤ i.b ∧ i.b < (x.nr : Int)) (hdr : (hasF i.kind).d = true → 0 ≤ i.d ∧ i.d < (x.nr : Int)) (hr : ∀ r ∈ readsF i, 0 ≤ r ∧ r < (x.nr : Int)) (hg : i.args.length ≤ 1048576) (hat : 0 ≤ x.at_ ∧ x.at_ ≤ 4611686018427387904) :
    ACalls Try.prog 32 [.v (.pointer (some ⟨s, 0, none⟩)), .ep (.slice (some ⟨g, 0, none⟩) n c) pre.length, .agg (insCells i)] (([Ent.box s 80 (psC ps (.v (.slice (some ⟨g, 0, none⟩) n c))), Ent.row (some ⟨g, 0, none⟩) n c 87 7 (pre ++ frC x a)] ++ frR x a) ++ (memE 114 pg l)) (fun t S => t = bv (okS x.set (readsF i) && (sizeOk i.size && thereF (psData ps.prog) ps.heap (adF x i) (wI i.size))) ∧ ∃ l', (([Ent.box s 80 (psC ps (.v (.slice (some ⟨g, 0, none⟩) n c))), Ent.row (some ⟨g, 0, none⟩) n c 87 7 (pre ++ frC (if (okS x.set (readsF i) && (sizeOk i.size && thereF (psData ps.prog) ps.heap (adF x i) (wI i.size))) = true then goF x else x) a)] ++ frR (if (okS x.set (readsF i) && (sizeOk i.size && thereF (psData ps.prog) ps.heap (adF x i) (wI i.size))) = true then goF x else x) a) ++ memE 114 pg l').Sublist S ∧ PgOk l' ∧ getM l' = if (okS x.set (readsF i) && (sizeOk i.size && thereF (psData ps.prog) ps.heap (adF x i) (wI i.size))) = true then putsF (getM l) (adF x i) (rA x i.b) i.size.toNat else getM l) := by
 have hl1 := hx.r
 obtain ⟨hat0, hat1⟩ := hat
 refine ACalls.intro Try.func32 rfl Try.ntmps32 nB rfl fun X w0 => ?_
 refine rs ?_
 refine AWL.boxOp rfl rfl (B rfl) rfl (E rfl rfl) rfl (fun b4 => ?_)
 refine AWL.perm (List.perm_append_singleton _ _).symm ?_
 refine AWL.boxOp rfl rfl (B rfl) rfl (E rfl rfl) rfl (fun b5 => ?_)
 refine AWL.perm (List.perm_append_singleton _ _).symm ?_
 refine ya ?_
 refine rs ?_
 refine AWL.allocOp rfl rfl (B rfl) rfl zc_4 (fun b7 => ?_)
 refine AWL.perm (List.perm_append_singleton _ _).symm ?_
 refine AWL.storeBox (i := 0) rfl rfl rfl ag_4 rfl (E rfl rfl) (E rfl rfl) rfl rfl nB (nl ?_)
 refine rs (Y1 (Yv.loadBoxA rfl ag_58 (i := 1) rfl eV rfl rfl) ?_)
 refine Y1 (Yv.makeFunc rfl evs0 rfl (evsC eV (evsC eV evs0)) rfl) ?_
 refine AWL.perm (S' := [Ent.box b7 4 [bv (true)], Ent.box b4 83 [.ep (.slice (some ⟨g, 0, none⟩) n c) pre.length], Ent.row (some ⟨g, 0, none⟩) n c 87 7 (pre ++ frC x a), Ent.row a.t x.nr x.nr 4 1 (x.set.map bv)] ++ ([Ent.box s 80 (psC ps (.v (.slice (some ⟨g, 0, none⟩) n c))), Ent.row a.r x.nr x.nr 39 1 (x.r.map zw), Ent.row a.s x.ns x.ns 39 1 (x.slot.map zw), Ent.row a.h x.ns x.ns 4 1 (x.there.map bv), Ent.box b5 58 (insCells i)] ++ (memE 114 pg l))) pmAv ?_
 refine C1 rfl ce_49 (E rfl rfl) (evsC (E rfl rfl) (evsC (E rfl rfl) evs0)) (S1 := [Ent.box b7 4 [bv (true)], Ent.box b4 83 [.ep (.slice (some ⟨g, 0, none⟩) n c) pre.length], Ent.row (some ⟨g, 0, none⟩) n c 87 7 (pre ++ frC x a), Ent.row a.t x.nr x.nr 4 1 (x.set.map bv)]) (S2 := _) rfl (reads49 b7 b4 g n c pre x a true i hx.t hg hr) ?_
 rintro t14 S14 ⟨rfl, rfl⟩
 refine AWL.perm (S' := ([Ent.box s 80 (psC ps (.v (.slice (some ⟨g, 0, none⟩) n c))), Ent.row (some ⟨g, 0, none⟩) n c 87 7 (pre ++ frC x a)] ++ frR x a) ++ ([Ent.box b4 83 [.ep (.slice (some ⟨g, 0, none⟩) n c) pre.length], Ent.box b5 58 (insCells i), Ent.box b7 4 [bv (okS x.set (readsF i))]] ++ (memE 114 pg l))) pmB0 (nl ?_)
 refine AW.seq ?_
 refine rs (yl ag_4 8 ?_)
 refine Y1 (Yv.not rfl eV) (nl ?_)
 refine AW.cond rfl (fun h0t => ?_) (fun h0f => ?_)
 ·try replace h0t := odt h0t
  refine ra ?_
  refine AW.ret (retI (.tmp rfl .nil) ?_)
  rw [show okS x.set (readsF i) = false by simpa using h0t]
  exact ⟨rfl, l, sub_mid _ _ _, hl, rfl⟩
 try replace h0f := odf h0f
 have hok : okS x.set (readsF i) = true := by simpa using h0f
 refine AW.skip ?_
 refine rs (Y1 (Yv.assign rfl eV) ?_)
 refine ya ?_
 refine AW.seq ?_
 refine rs (yf fo_58_0 ?_)
 refine yl ag_3 7 (nl ?_)
 refine AW.block ?_
 refine rs (Y1 (Yv.eql rfl eV eV) ?_)
 refine ya ?_
 refine AW.cond rfl (fun h1t => ?_) (fun h1f => ?_)
 ·try replace h1t := odt h1t
  exfalso; omega
 try replace h1f := odf h1f
 refine rs (Y1 (Yv.eql rfl eV eV) ?_)
 refine ya ?_
 refine AW.cond rfl (fun h2t => ?_) (fun h2f => ?_)
 ·try replace h2t := odt h2t
  exfalso; omega
 try replace h2f := odf h2f
 refine AW.seq ?_
 refine rs (Y1 (Yv.eql rfl eV eV) ?_)
 refine ya ?_
 refine AW.cond rfl (fun h3t => ?_) (fun h3f => ?_)
 ·try replace h3t := odt h3t
  exfalso; omega
 try replace h3f := odf h3f
 refine rs (Y1 (Yv.eql rfl eV eV) ?_)
 refine ya ?_
 refine AW.cond rfl (fun h4t => ?_) (fun h4f => ?_)
 ·try replace h4t := odt h4t
  exfalso; omega
 try replace h4f := odf h4f
 refine rs (Y1 (Yv.eql rfl eV eV) ?_)
 refine ya ?_
 refine AW.cond rfl (fun h5t => ?_) (fun h5f => ?_)
 ·try replace h5t := odt h5t
  exfalso; omega
 try replace h5f := odf h5f
 refine rs (Y1 (Yv.eql rfl eV eV) ?_)
 refine ya ?_
 refine AW.cond rfl (fun h6t => ?_) (fun h6f => ?_)
 ·try replace h6t := odt h6t
  exfalso; omega
 try replace h6f := odf h6f
 refine AW.region ?_
 refine Y1 (Yv.eql rfl eV eV) ?_
 refine ya ?_
 refine AW.cond rfl (fun h7t => ?_) (fun h7f => ?_)
 ·try replace h7t := odt h7t
  exfalso; omega
 try replace h7f := odf h7f
 refine rs (Y1 (Yv.eql rfl eV eV) ?_)
 refine ya ?_
 refine AW.cond rfl (fun h8t => ?_) (fun h8f => ?_)
 ·try replace h8t := odt h8t
  obtain ⟨ha0, ha1⟩ := ha (by rw [hk]; rfl)
  obtain ⟨hb0, hb1⟩ := hb (by rw [hk]; rfl)
  refine AW.regionP rfl ?_
  refine AWP.phase [true, true, true, true, true, true, true, true, true, true, true, true, true, true, true, true, true, true, true, true, true, true, true] 2 rfl (by kernel_rfl) (by kernel_rfl) ?_
  refine qm ?_
  refine ql ag_83 6 ?_
  refine Q1 (Yv.nilChkEp rfl eV) ?_
  refine Q1 (Yv.fieldEp rfl fo_87_2 eV) ?_
  refine Q1 (Yv.loadEp rfl ag_84 (i := 1) rfl eV (fun hg => fr2)) ?_
  refine qf fo_58_2 ?_
  refine ql ag_3 7 ?_
  refine Q1 (Yv.indexRow (j := i.a.toNat) rfl ss_84 (i := 2) rfl eV eV (fun hg => ⟨(Int.toNat_of_nonneg ha0).symm, show i.a.toNat < x.nr by omega⟩)) ?_
  refine Q1 (Yv.loadEp rfl ag_39 (i := 2) rfl eV (fun hg => word_at (by omega))) ?_
  refine qf fo_58_9 ?_
  refine ql ag_2 7 ?_
  refine Q1 (Yv.convW rfl Try.underlying2 kd_39 eV) ?_
  refine Q1 (Yv.addW rfl eV eV) ?_
  refine qf fo_58_8 ?_
  refine ql ag_3 7 ?_
  refine ql ag_83 6 ?_
  refine Q1 (Yv.nilChkEp rfl eV) ?_
  refine Q1 (Yv.fieldEp rfl fo_87_2 eV) ?_
  refine Q1 (Yv.loadEp rfl ag_84 (i := 1) rfl eV (fun hg => fr2)) ?_
  refine qf fo_58_3 ?_
  refine ql ag_3 7 ?_
  refine Q1 (Yv.indexRow (j := i.b.toNat) rfl ss_84 (i := 2) rfl eV eV (fun hg => ⟨(Int.toNat_of_nonneg hb0).symm, show i.b.toNat < x.nr by omega⟩)) ?_
  refine Q1 (Yv.loadEp rfl ag_39 (i := 2) rfl eV (fun hg => word_at (by omega))) ?_
  refine AWQ.nil ?_
  refine p1 23 ?_
  refine AWL.perm (S' := (Ent.box s 80 (psC ps (.v (.slice (some ⟨g, 0, none⟩) n c))) :: memE 114 pg l) ++ ([Ent.row (some ⟨g, 0, none⟩) n c 87 7 (pre ++ frC x a)] ++ frR x a ++ [Ent.box b4 83 [.ep (.slice (some ⟨g, 0, none⟩) n c) pre.length], Ent.box b5 58 (insCells i), Ent.box b7 4 [bv (okS x.set (readsF i))]])) (toMem (X := Ent.box s 80 (psC ps (.v (.slice (some ⟨g, 0, none⟩) n c)))) (W := [Ent.row (some ⟨g, 0, none⟩) n c 87 7 (pre ++ frC x a)] ++ frR x a ++ [Ent.box b4 83 [.ep (.slice (some ⟨g, 0, none⟩) n c) pre.length], Ent.box b5 58 (insCells i), Ent.box b7 4 [bv (okS x.set (readsF i))]])) ?_
  refine C1 rfl ce_53 (E rfl rfl) (evsC (E rfl rfl) (evsC (E rfl rfl) (evsC (E rfl rfl) (evsC (E rfl rfl) evs0)))) (S1 := (Ent.box s 80 (psC ps (.v (.slice (some ⟨g, 0, none⟩) n c))) :: (memE 114 pg l))) (S2 := _) rfl (Store53 s pg ps _ l hpg hl hd hz0 hz1 (adF x i) i.size (rA x i.b)) ?_
  rintro t123 S123 ⟨rfl, l2, rfl, hl2, hm2⟩
  refine AWL.perm (S' := ([Ent.box s 80 (psC ps (.v (.slice (some ⟨g, 0, none⟩) n c))), Ent.row (some ⟨g, 0, none⟩) n c 87 7 (pre ++ frC x a)] ++ frR x a) ++ ([Ent.box b4 83 [.ep (.slice (some ⟨g, 0, none⟩) n c) pre.length], Ent.box b5 58 (insCells i), Ent.box b7 4 [bv (okS x.set (readsF i))]] ++ memE 114 pg l2)) (toMem (X := Ent.box s 80 (psC ps (.v (.slice (some ⟨g, 0, none⟩) n c)))) (W := [Ent.row (some ⟨g, 0, none⟩) n c 87 7 (pre ++ frC x a)] ++ frR x a ++ [Ent.box b4 83 [.ep (.slice (some ⟨g, 0, none⟩) n c) pre.length], Ent.box b5 58 (insCells i), Ent.box b7 4 [bv (okS x.set (readsF i))]])).symm (nl ?_)
  refine p1 24 ?_
  refine ya ?_
  refine AWP.done (by kernel_rfl) ?_
  refine AW.seq ?_
  refine rs (ym ?_)
  refine Y1 (Yv.not rfl eV) (nl ?_)
  refine AW.cond rfl (fun h9t => ?_) (fun h9f => ?_)
  ·try replace h9t := odt h9t
   have hmo : (sizeOk i.size && thereF (psData ps.prog) ps.heap (adF x i) (wI i.size)) = false := by rw [← Bool.not_eq_true']; exact h9t
   refine ra ?_
   refine AW.ret (retI (.tmp rfl .nil) ?_)
   rw [hok, hmo]
   rw [hmo] at hm2
   exact ⟨rfl, l2, sub_mid _ _ _, hl2, hm2⟩
  try replace h9f := odf h9f
  have hmo : (sizeOk i.size && thereF (psData ps.prog) ps.heap (adF x i) (wI i.size)) = true := by rw [← Bool.not_eq_false']; exact h9f
  refine AW.skip ?_
  refine AW.seq ?_
  refine rs (yf fo_58_0 ?_)
  refine yl ag_3 7 ?_
  refine AWL.callT rfl rfl (B rfl) rfl ce_57 (E rfl rfl) (evsC (E rfl rfl) evs0) (fields57 i.kind) ?_
  rintro t188 S188 rfl
  refine ym ?_
  refine Y1 (Yv.extract rfl eV rfl) ?_
  refine Y1 (Yv.extract rfl eV rfl) ?_
  refine AWL.allocOp rfl rfl (B rfl) rfl zc_122 (fun b10 => ?_)
  refine AWL.perm (S' := ([Ent.box s 80 (psC ps (.v (.slice (some ⟨g, 0, none⟩) n c))), Ent.row (some ⟨g, 0, none⟩) n c 87 7 (pre ++ frC x a)] ++ frR x a) ++ ([Ent.box b4 83 [.ep (.slice (some ⟨g, 0, none⟩) n c) pre.length], Ent.box b5 58 (insCells i), Ent.box b7 4 [bv (okS x.set (readsF i))]] ++ (Ent.box b10 122 (List.map T.v [Value.bool false, Value.bool false, Value.bool false, Value.bool false, Value.bool false, Value.bool false, Value.bool false, Value.bool false]) :: memE 114 pg l2))) toTen ?_
  refine AWL.storeBox (i := 9) rfl rfl rfl ag_122 rfl (E rfl rfl) (E rfl rfl) rfl rfl nB ?_
  refine ya ?_
  refine rs (yf fo_122_0 ?_)
  refine yl ag_4 9 (nl ?_)
  refine AW.cond rfl (fun h10t => ?_) (fun h10f => ?_)
  ·try replace h10t := odt h10t
   rw [hk] at h10t
   cases h10t
  try replace h10f := odf h10f
  refine AW.skip ?_
  refine rs (yl ag_83 6 ?_)
  refine Y1 (Yv.nilChkEp rfl eV) ?_
  refine Y1 (Yv.fieldEp rfl fo_87_1 eV) ?_
  refine Y1 (Yv.loadEp rfl ag_3 (i := 1) rfl eV (fun hg => fr1)) ?_
  refine Y1 (Yv.addN_i64 rfl eV eV (fun hg => by omega)) ?_
  refine Y1 (Yv.nilChkEp rfl eV) ?_
  refine Y1 (Yv.fieldEp rfl fo_87_1 eV) ?_
  refine AWL.storeEp1 (i := 1) rfl rfl rfl ag_3 rfl (E rfl rfl) (E rfl rfl) rfl rfl (by rw [fr_len]; omega) (nl ?_)
  refine ra ?_
  refine AW.ret (retI (.tmp rfl .nil) ?_)
  rw [hok, hmo]
  rw [hmo] at hm2
  refine ⟨rfl, l2, ?_, hl2, hm2⟩
  rw [show (pre ++ frC (if (true && true) = true then goF x else x) a) = (pre ++ frC x a).set (pre.length + 1) (zi (x.at_ + 1)) from (fr_jump (pre := pre) (x := x) (a := a) _).symm]
  exact sub_mid2 _ [_, _, _] _ _
 try replace h8f := odf h8f
 exfalso; omega

theorem do32St (s g n c pg : Nat) (ps : PS) (pre : List T) (x : Fr) (a : FA) (i : Ins) (l : List Pg) (hx : FrOk x) (hpg : ps.pages = mapT pg) (hl : PgOk l) (hd : ps.prog.data.length ≤ 1048576) (hz0 : 0 ≤ ps.prog.zero) (hz1 : ps.prog.zero ≤ 268435456) (hk : i.kind = 18) (ha : (hasF i.kind).a = true → 0 ≤ i.a ∧ i.a < (x.nr : Int)) (hb : (hasF i.kind).b = true → 0 ≤ i.b ∧ i.b < (x.nr : Int)) (hdr : (hasF i.kind).d = true → 0 ≤ i.d ∧ i.d < (x.nr : Int)) (hr : ∀ r ∈ readsF i, 0 ≤ r ∧ r < (x.nr : Int)) (hg : i.args.length ≤ 1048576) (hat : 0 ≤ x.at_ ∧ x.at_ ≤ 4611686018427387904) : ACalls Try.prog 32 [.v (.pointer (some ⟨s, 0, none⟩)), .ep (.slice (some ⟨g, 0, none⟩) n c) pre.length, .agg (insCells i)] (([Ent.box s 80 (psC ps (.v (.slice (some ⟨g, 0, none⟩) n c))), Ent.row (some ⟨g, 0, none⟩) n c 87 7 (pre ++ frC x a)] ++ frR x a) ++ (memE 114 pg l)) (fun t S => t = bv (okS x.set (readsF i) && (sizeOk i.size && thereF (psData ps.prog) ps.heap (adF x i) (wI i.size))) ∧ ∃ l', S = ([Ent.box s 80 (psC ps (.v (.slice (some ⟨g, 0, none⟩) n c))), Ent.row (some ⟨g, 0, none⟩) n c 87 7 (pre ++ frC (if (okS x.set (readsF i) && (sizeOk i.size && thereF (psData ps.prog) ps.heap (adF x i) (wI i.size))) = true then goF x else x) a)] ++ frR (if (okS x.set (readsF i) && (sizeOk i.size && thereF (psData ps.prog) ps.heap (adF x i) (wI i.size))) = true then goF x else x) a) ++ memE 114 pg l' ∧ PgOk l' ∧ getM l' = if (okS x.set (readsF i) && (sizeOk i.size && thereF (psData ps.prog) ps.heap (adF x i) (wI i.size))) = true then putsF (getM l) (adF x i) (rA x i.b) i.size.toNat else getM l) :=
 (do32St_ s g n c pg ps pre x a i l hx hpg hl hd hz0 hz1 hk ha hb hdr hr hg hat).less fun t S' ⟨h1, l', h2, h3⟩ => ⟨_, h2, h1, l', rfl, h3⟩
set_option maxHeartbeats 16000000 in
theorem do32Ld_ (s g n c pg : Nat) (ps : PS) (pre : List T) (x : Fr) (a : FA) (i : Ins) (l : List Pg) (hx : FrOk x) (hpg : ps.pages = mapT pg) (hl : PgOk l) (hd : ps.prog.data.length ≤ 1048576) (hz0 : 0 ≤ ps.prog.zero) (hz1 : ps.prog.zero ≤ 268435456) (hk : i.kind = 17) (ha : (hasF i.kind).a = true → 0 ≤ i.a ∧ i.a < (x.nr : Int)) (hb : (hasF i.kind).b = true → 0 ≤ i.b ∧ i.b < (x.nr : Int)) (hdr : (hasF i.kind).d = true → 0 ≤ i.d ∧ i.d < (x.nr : Int)) (hr : ∀ r ∈ readsF i, 0 ≤ r ∧ r < (x.nr : Int)) (hg : i.args.length ≤ 1048576) (hat : 0 ≤ x.at_ ∧ x.at_ ≤ 4611686018427387904) :
    ACalls Try.prog 32 [.v (.pointer (some ⟨s, 0, none⟩)), .ep (.slice (some ⟨g, 0, none⟩) n c) pre.length, .agg (insCells i)] (([Ent.box s 80 (psC ps (.v (.slice (some ⟨g, 0, none⟩) n c))), Ent.row (some ⟨g, 0, none⟩) n c 87 7 (pre ++ frC x a)] ++ frR x a) ++ (memE 114 pg l)) (fun t S => t = bv (okS x.set (readsF i) && (sizeOk i.size && thereF (psData ps.prog) ps.heap (adF x i) (wI i.size))) ∧ (([Ent.box s 80 (psC ps (.v (.slice (some ⟨g, 0, none⟩) n c))), Ent.row (some ⟨g, 0, none⟩) n c 87 7 (pre ++ frC (if (okS x.set (readsF i) && (sizeOk i.size && thereF (psData ps.prog) ps.heap (adF x i) (wI i.size))) = true then goF (setD x i.d (leF (getM l) (adF x i) i.size.toNat)) else x) a)] ++ frR (if (okS x.set (readsF i) && (sizeOk i.size && thereF (psData ps.prog) ps.heap (adF x i) (wI i.size))) = true then goF (setD x i.d (leF (getM l) (adF x i) i.size.toNat)) else x) a) ++ (memE 114 pg l)).Sublist S) := by
 have hl1 := hx.r
 have hl3 := hx.t
 obtain ⟨hat0, hat1⟩ := hat
 refine ACalls.intro Try.func32 rfl Try.ntmps32 nB rfl fun X w0 => ?_
 refine rs ?_
 refine AWL.boxOp rfl rfl (B rfl) rfl (E rfl rfl) rfl (fun b4 => ?_)
 refine AWL.perm (List.perm_append_singleton _ _).symm ?_
 refine AWL.boxOp rfl rfl (B rfl) rfl (E rfl rfl) rfl (fun b5 => ?_)
 refine AWL.perm (List.perm_append_singleton _ _).symm ?_
 refine ya ?_
 refine rs ?_
 refine AWL.allocOp rfl rfl (B rfl) rfl zc_4 (fun b7 => ?_)
 refine AWL.perm (List.perm_append_singleton _ _).symm ?_
 refine AWL.storeBox (i := 0) rfl rfl rfl ag_4 rfl (E rfl rfl) (E rfl rfl) rfl rfl nB (nl ?_)
 refine rs (Y1 (Yv.loadBoxA rfl ag_58 (i := 1) rfl eV rfl rfl) ?_)
 refine Y1 (Yv.makeFunc rfl evs0 rfl (evsC eV (evsC eV evs0)) rfl) ?_
 refine AWL.perm (S' := [Ent.box b7 4 [bv (true)], Ent.box b4 83 [.ep (.slice (some ⟨g, 0, none⟩) n c) pre.length], Ent.row (some ⟨g, 0, none⟩) n c 87 7 (pre ++ frC x a), Ent.row a.t x.nr x.nr 4 1 (x.set.map bv)] ++ ([Ent.box s 80 (psC ps (.v (.slice (some ⟨g, 0, none⟩) n c))), Ent.row a.r x.nr x.nr 39 1 (x.r.map zw), Ent.row a.s x.ns x.ns 39 1 (x.slot.map zw), Ent.row a.h x.ns x.ns 4 1 (x.there.map bv), Ent.box b5 58 (insCells i)] ++ (memE 114 pg l))) pmAv ?_
 refine C1 rfl ce_49 (E rfl rfl) (evsC (E rfl rfl) (evsC (E rfl rfl) evs0)) (S1 := [Ent.box b7 4 [bv (true)], Ent.box b4 83 [.ep (.slice (some ⟨g, 0, none⟩) n c) pre.length], Ent.row (some ⟨g, 0, none⟩) n c 87 7 (pre ++ frC x a), Ent.row a.t x.nr x.nr 4 1 (x.set.map bv)]) (S2 := _) rfl (reads49 b7 b4 g n c pre x a true i hx.t hg hr) ?_
 rintro t14 S14 ⟨rfl, rfl⟩
 refine AWL.perm (S' := ([Ent.box s 80 (psC ps (.v (.slice (some ⟨g, 0, none⟩) n c))), Ent.row (some ⟨g, 0, none⟩) n c 87 7 (pre ++ frC x a)] ++ frR x a) ++ ([Ent.box b4 83 [.ep (.slice (some ⟨g, 0, none⟩) n c) pre.length], Ent.box b5 58 (insCells i), Ent.box b7 4 [bv (okS x.set (readsF i))]] ++ (memE 114 pg l))) pmB0 (nl ?_)
 refine AW.seq ?_
 refine rs (yl ag_4 8 ?_)
 refine Y1 (Yv.not rfl eV) (nl ?_)
 refine AW.cond rfl (fun h0t => ?_) (fun h0f => ?_)
 ·try replace h0t := odt h0t
  refine ra ?_
  refine AW.ret (retI (.tmp rfl .nil) ?_)
  rw [show okS x.set (readsF i) = false by simpa using h0t]
  exact ⟨rfl, sub_mid _ _ _⟩
 try replace h0f := odf h0f
 have hok : okS x.set (readsF i) = true := by simpa using h0f
 refine AW.skip ?_
 refine rs (Y1 (Yv.assign rfl eV) ?_)
 refine ya ?_
 refine AW.seq ?_
 refine rs (yf fo_58_0 ?_)
 refine yl ag_3 7 (nl ?_)
 refine AW.block ?_
 refine rs (Y1 (Yv.eql rfl eV eV) ?_)
 refine ya ?_
 refine AW.cond rfl (fun h1t => ?_) (fun h1f => ?_)
 ·try replace h1t := odt h1t
  exfalso; omega
 try replace h1f := odf h1f
 refine rs (Y1 (Yv.eql rfl eV eV) ?_)
 refine ya ?_
 refine AW.cond rfl (fun h2t => ?_) (fun h2f => ?_)
 ·try replace h2t := odt h2t
  exfalso; omega
 try replace h2f := odf h2f
 refine AW.seq ?_
 refine rs (Y1 (Yv.eql rfl eV eV) ?_)
 refine ya ?_
 refine AW.cond rfl (fun h3t => ?_) (fun h3f => ?_)
 ·try replace h3t := odt h3t
  exfalso; omega
 try replace h3f := odf h3f
 refine rs (Y1 (Yv.eql rfl eV eV) ?_)
 refine ya ?_
 refine AW.cond rfl (fun h4t => ?_) (fun h4f => ?_)
 ·try replace h4t := odt h4t
  exfalso; omega
 try replace h4f := odf h4f
 refine rs (Y1 (Yv.eql rfl eV eV) ?_)
 refine ya ?_
 refine AW.cond rfl (fun h5t => ?_) (fun h5f => ?_)
 ·try replace h5t := odt h5t
  exfalso; omega
 try replace h5f := odf h5f
 refine rs (Y1 (Yv.eql rfl eV eV) ?_)
 refine ya ?_
 refine AW.cond rfl (fun h6t => ?_) (fun h6f => ?_)
 ·try replace h6t := odt h6t
  exfalso; omega
 try replace h6f := odf h6f
 refine AW.region ?_
 refine Y1 (Yv.eql rfl eV eV) ?_
 refine ya ?_
 refine AW.cond rfl (fun h7t => ?_) (fun h7f => ?_)
 ·try replace h7t := odt h7t
  exfalso; omega
 try replace h7f := odf h7f
 refine rs (Y1 (Yv.eql rfl eV eV) ?_)
 refine ya ?_
 refine AW.cond rfl (fun h8t => ?_) (fun h8f => ?_)
 ·try replace h8t := odt h8t
  exfalso; omega
 try replace h8f := odf h8f
 refine rs (Y1 (Yv.eql rfl eV eV) ?_)
 refine ya ?_
 refine AW.cond rfl (fun h9t => ?_) (fun h9f => ?_)
 ·try replace h9t := odt h9t
  exfalso; omega
 try replace h9f := odf h9f
 refine rs (Y1 (Yv.eql rfl eV eV) ?_)
 refine ya ?_
 refine AW.cond rfl (fun h10t => ?_) (fun h10f => ?_)
 ·try replace h10t := odt h10t
  obtain ⟨ha0, ha1⟩ := ha (by rw [hk]; rfl)
  obtain ⟨hd0, hd1⟩ := hdr (by rw [hk]; rfl)
  refine AW.regionP rfl ?_
  refine AWP.phase [true, true, true, true, true, true, true, true, true, true, true, true, true, true, true] 6 rfl (by kernel_rfl) (by kernel_rfl) ?_
  refine qm ?_
  refine ql ag_83 6 ?_
  refine Q1 (Yv.nilChkEp rfl eV) ?_
  refine Q1 (Yv.fieldEp rfl fo_87_2 eV) ?_
  refine Q1 (Yv.loadEp rfl ag_84 (i := 1) rfl eV (fun hg => fr2)) ?_
  refine qf fo_58_2 ?_
  refine ql ag_3 7 ?_
  refine Q1 (Yv.indexRow (j := i.a.toNat) rfl ss_84 (i := 2) rfl eV eV (fun hg => ⟨(Int.toNat_of_nonneg ha0).symm, show i.a.toNat < x.nr by omega⟩)) ?_
  refine Q1 (Yv.loadEp rfl ag_39 (i := 2) rfl eV (fun hg => word_at (by omega))) ?_
  refine qf fo_58_9 ?_
  refine ql ag_2 7 ?_
  refine Q1 (Yv.convW rfl Try.underlying2 kd_39 eV) ?_
  refine Q1 (Yv.addW rfl eV eV) ?_
  refine qf fo_58_8 ?_
  refine ql ag_3 7 ?_
  refine AWQ.nil ?_
  refine p1 15 ?_
  refine AWL.perm (S' := (Ent.box s 80 (psC ps (.v (.slice (some ⟨g, 0, none⟩) n c))) :: memE 114 pg l) ++ ([Ent.row (some ⟨g, 0, none⟩) n c 87 7 (pre ++ frC x a)] ++ frR x a ++ [Ent.box b4 83 [.ep (.slice (some ⟨g, 0, none⟩) n c) pre.length], Ent.box b5 58 (insCells i), Ent.box b7 4 [bv (okS x.set (readsF i))]])) (toMem (X := Ent.box s 80 (psC ps (.v (.slice (some ⟨g, 0, none⟩) n c)))) (W := [Ent.row (some ⟨g, 0, none⟩) n c 87 7 (pre ++ frC x a)] ++ frR x a ++ [Ent.box b4 83 [.ep (.slice (some ⟨g, 0, none⟩) n c) pre.length], Ent.box b5 58 (insCells i), Ent.box b7 4 [bv (okS x.set (readsF i))]])) ?_
  refine C1 rfl ce_54 (E rfl rfl) (evsC (E rfl rfl) (evsC (E rfl rfl) (evsC (E rfl rfl) evs0))) (S1 := (Ent.box s 80 (psC ps (.v (.slice (some ⟨g, 0, none⟩) n c))) :: (memE 114 pg l))) (S2 := _) rfl (Load54 s pg ps _ l hpg hl hd hz0 hz1 (adF x i) i.size) ?_
  rintro t166 S166 ⟨rfl, rfl⟩
  refine AWL.perm (S' := ([Ent.box s 80 (psC ps (.v (.slice (some ⟨g, 0, none⟩) n c))), Ent.row (some ⟨g, 0, none⟩) n c 87 7 (pre ++ frC x a)] ++ frR x a) ++ ([Ent.box b4 83 [.ep (.slice (some ⟨g, 0, none⟩) n c) pre.length], Ent.box b5 58 (insCells i), Ent.box b7 4 [bv (okS x.set (readsF i))]] ++ memE 114 pg l)) (toMem (X := Ent.box s 80 (psC ps (.v (.slice (some ⟨g, 0, none⟩) n c)))) (W := [Ent.row (some ⟨g, 0, none⟩) n c 87 7 (pre ++ frC x a)] ++ frR x a ++ [Ent.box b4 83 [.ep (.slice (some ⟨g, 0, none⟩) n c) pre.length], Ent.box b5 58 (insCells i), Ent.box b7 4 [bv (okS x.set (readsF i))]])).symm (nl ?_)
  refine p1 16 ?_
  refine ym (nl ?_)
  refine T1 (i := 17) rfl (freeExtract rfl (E rfl rfl) rfl) ?_
  refine T1 (i := 18) rfl (freeExtract rfl (E rfl rfl) rfl) ?_
  refine p1 19 ?_
  refine ya ?_
  refine p1 20 ?_
  refine ya ?_
  refine AWP.done (by kernel_rfl) ?_
  refine AW.seq ?_
  refine rs (ym ?_)
  refine Y1 (Yv.not rfl eV) (nl ?_)
  refine AW.cond rfl (fun h11t => ?_) (fun h11f => ?_)
  ·try replace h11t := odt h11t
   have hmo : (sizeOk i.size && thereF (psData ps.prog) ps.heap (adF x i) (wI i.size)) = false := by rw [← Bool.not_eq_true']; exact h11t
   refine ra ?_
   refine AW.ret (retI (.tmp rfl .nil) ?_)
   rw [hok, hmo]
   exact ⟨rfl, sub_mid _ _ _⟩
  try replace h11f := odf h11f
  have hmo : (sizeOk i.size && thereF (psData ps.prog) ps.heap (adF x i) (wI i.size)) = true := by rw [← Bool.not_eq_false']; exact h11f
  rw [if_pos hmo]
  refine AW.skip ?_
  refine AW.seq ?_
  refine rs (yf fo_58_0 ?_)
  refine yl ag_3 7 ?_
  refine AWL.callT rfl rfl (B rfl) rfl ce_57 (E rfl rfl) (evsC (E rfl rfl) evs0) (fields57 i.kind) ?_
  rintro t188 S188 rfl
  refine ym ?_
  refine Y1 (Yv.extract rfl eV rfl) ?_
  refine Y1 (Yv.extract rfl eV rfl) ?_
  refine AWL.allocOp rfl rfl (B rfl) rfl zc_122 (fun b10 => ?_)
  refine AWL.perm (S' := ([Ent.box s 80 (psC ps (.v (.slice (some ⟨g, 0, none⟩) n c))), Ent.row (some ⟨g, 0, none⟩) n c 87 7 (pre ++ frC x a)] ++ frR x a) ++ ([Ent.box b4 83 [.ep (.slice (some ⟨g, 0, none⟩) n c) pre.length], Ent.box b5 58 (insCells i), Ent.box b7 4 [bv (okS x.set (readsF i))]] ++ (Ent.box b10 122 (List.map T.v [Value.bool false, Value.bool false, Value.bool false, Value.bool false, Value.bool false, Value.bool false, Value.bool false, Value.bool false]) :: memE 114 pg l))) toTen ?_
  refine AWL.storeBox (i := 9) rfl rfl rfl ag_122 rfl (E rfl rfl) (E rfl rfl) rfl rfl nB ?_
  refine ya ?_
  refine rs (yf fo_122_0 ?_)
  refine yl ag_4 9 (nl ?_)
  refine AW.cond rfl (fun h12t => ?_) (fun h12f => ?_)
  ·try replace h12t := odt h12t
   refine AW.regionH (HeldCs [(b4, 0, Value.pointer (some ⟨g, pre.length, none⟩)), (g, pre.length + 2, Value.slice a.r x.nr x.nr), (b5, 1, Value.int .i64 i.d), (g, pre.length + 4, Value.slice a.t x.nr x.nr)]) rfl (tells_cs (tcB 6 rfl rfl pinE (tcR 1 rfl fr2 pinV (tcB 7 rfl rfl pinV (tcR 1 rfl fr4 pinV tc0))))) ?_
   refine T2 (i := 0) rfl (heldB (r := .ep (.slice (some ⟨g, 0, none⟩) n c) pre.length) 0 rfl ag_83 (E rfl rfl) rfl (fun _ _ => .ep)) ?_
   refine T2 (i := 1) rfl (heldAll (freeNilEp rfl (E rfl rfl))) ?_
   refine T2 (i := 2) rfl (heldAll (freeFieldEp rfl fo_87_2 (E rfl rfl))) ?_
   refine T2 (i := 3) rfl (heldE 1 rfl ag_84 (E rfl rfl) rfl (fun _ _ => .v _)) ?_
   refine T2 (i := 4) rfl (heldAll (freeField rfl fo_58_1 (E rfl rfl))) ?_
   refine T2 (i := 5) rfl (heldB 2 rfl ag_3 (E rfl rfl) rfl (fun _ _ => .v _)) ?_
   refine T2 (i := 6) rfl (heldB (r := .ep (.slice (some ⟨g, 0, none⟩) n c) pre.length) 0 rfl ag_83 (E rfl rfl) rfl (fun _ _ => .ep)) ?_
   refine T2 (i := 7) rfl (heldAll (freeNilEp rfl (E rfl rfl))) ?_
   refine T2 (i := 8) rfl (heldAll (freeFieldEp rfl fo_87_4 (E rfl rfl))) ?_
   refine T2 (i := 9) rfl (heldE 3 rfl ag_85 (E rfl rfl) rfl (fun _ _ => .v _)) ?_
   refine T2 (i := 10) rfl (heldAll (freeField rfl fo_58_1 (E rfl rfl))) ?_
   refine T2 (i := 11) rfl (heldB 2 rfl ag_3 (E rfl rfl) rfl (fun _ _ => .v _)) ?_
   refine AWH.one (i := 12) (by kernel_rfl) rfl ?_
   refine ym ?_
   refine AWL.nil (kpH (tcB 6 rfl rfl pinE (tcR 1 rfl fr2 pinV (tcB 7 rfl rfl pinV (tcR 1 rfl fr4 pinV tc0)))) ?_)
   refine AWH.one (i := 13) (by kernel_rfl) rfl ?_
   refine Y1 (Yv.indexRow (j := i.d.toNat) rfl ss_84 (i := 2) rfl eV eV (fun hg => ⟨(Int.toNat_of_nonneg hd0).symm, show i.d.toNat < x.nr by omega⟩)) ?_
   refine AWL.nil (kpH (tcB 6 rfl rfl pinE (tcR 1 rfl fr2 pinV (tcB 7 rfl rfl pinV (tcR 1 rfl fr4 pinV tc0)))) ?_)
   refine AWH.one (i := 14) (by kernel_rfl) rfl ?_
   refine AWL.storeEp1 (i := 2) rfl rfl rfl ag_39 rfl (E rfl rfl) (E rfl rfl) rfl rfl (by first | (rw [List.length_map]; omega) | omega) ?_
   refine AWL.nil (kpH (tcB 6 rfl rfl pinE (tcR 1 rfl fr2 pinV (tcB 7 rfl rfl pinV (tcR 1 rfl fr4 pinV tc0)))) ?_)
   refine AWH.one (i := 15) (by kernel_rfl) rfl ?_
   refine Y1 (Yv.indexRow (j := i.d.toNat) rfl ss_85 (i := 4) rfl eV eV (fun hg => ⟨(Int.toNat_of_nonneg hd0).symm, show i.d.toNat < x.nr by omega⟩)) ?_
   refine AWL.nil (kpH (tcB 6 rfl rfl pinE (tcR 1 rfl fr2 pinV (tcB 7 rfl rfl pinV (tcR 1 rfl fr4 pinV tc0)))) ?_)
   refine AWH.one (i := 16) (by kernel_rfl) rfl ?_
   refine AWL.storeEp1 (i := 4) rfl rfl rfl ag_4 rfl (E rfl rfl) (E rfl rfl) rfl rfl (by first | (rw [List.length_map]; omega) | omega) ?_
   refine AWL.nil (kpH (tcB 6 rfl rfl pinE (tcR 1 rfl fr2 pinV (tcB 7 rfl rfl pinV (tcR 1 rfl fr4 pinV tc0)))) ?_)
   refine AWH.done (by kernel_rfl) ?_
   refine rs (yl ag_83 6 ?_)
   refine Y1 (Yv.nilChkEp rfl eV) ?_
   refine Y1 (Yv.fieldEp rfl fo_87_1 eV) ?_
   refine Y1 (Yv.loadEp rfl ag_3 (i := 1) rfl eV (fun hg => fr1)) ?_
   refine Y1 (Yv.addN_i64 rfl eV eV (fun hg => by omega)) ?_
   refine Y1 (Yv.nilChkEp rfl eV) ?_
   refine Y1 (Yv.fieldEp rfl fo_87_1 eV) ?_
   refine AWL.storeEp1 (i := 1) rfl rfl rfl ag_3 rfl (E rfl rfl) (E rfl rfl) rfl rfl (by rw [fr_len]; omega) (nl ?_)
   refine ra ?_
   refine AW.ret (retI (.tmp rfl .nil) ?_)
   rw [hok, hmo]
   refine ⟨rfl, ?_⟩
   rw [show frR (if (true && true) = true then goF (setD x i.d (leF (getM l) (adF x i) i.size.toNat)) else x) a = frR (setD x i.d (leF (getM l) (adF x i) i.size.toNat)) a from rfl, setD_rows, show (pre ++ frC (if (true && true) = true then goF (setD x i.d (leF (getM l) (adF x i) i.size.toNat)) else x) a) = (pre ++ frC x a).set (pre.length + 1) (zi (x.at_ + 1)) from (fr_jump (pre := pre) (x := x) (a := a) _).symm]
   exact sub_mid2 _ [_, _, _] _ _
  try replace h12f := odf h12f
  rw [hk] at h12f
  cases h12f
 try replace h10f := odf h10f
 exfalso; omega

theorem do32Ld (s g n c pg : Nat) (ps : PS) (pre : List T) (x : Fr) (a : FA) (i : Ins) (l : List Pg) (hx : FrOk x) (hpg : ps.pages = mapT pg) (hl : PgOk l) (hd : ps.prog.data.length ≤ 1048576) (hz0 : 0 ≤ ps.prog.zero) (hz1 : ps.prog.zero ≤ 268435456) (hk : i.kind = 17) (ha : (hasF i.kind).a = true → 0 ≤ i.a ∧ i.a < (x.nr : Int)) (hb : (hasF i.kind).b = true → 0 ≤ i.b ∧ i.b < (x.nr : Int)) (hdr : (hasF i.kind).d = true → 0 ≤ i.d ∧ i.d < (x.nr : Int)) (hr : ∀ r ∈ readsF i, 0 ≤ r ∧ r < (x.nr : Int)) (hg : i.args.length ≤ 1048576) (hat : 0 ≤ x.at_ ∧ x.at_ ≤ 4611686018427387904) : ACalls Try.prog 32 [.v (.pointer (some ⟨s, 0, none⟩)), .ep (.slice (some ⟨g, 0, none⟩) n c) pre.length, .agg (insCells i)] (([Ent.box s 80 (psC ps (.v (.slice (some ⟨g, 0, none⟩) n c))), Ent.row (some ⟨g, 0, none⟩) n c 87 7 (pre ++ frC x a)] ++ frR x a) ++ (memE 114 pg l)) (fun t S => t = bv (okS x.set (readsF i) && (sizeOk i.size && thereF (psData ps.prog) ps.heap (adF x i) (wI i.size))) ∧ S = ([Ent.box s 80 (psC ps (.v (.slice (some ⟨g, 0, none⟩) n c))), Ent.row (some ⟨g, 0, none⟩) n c 87 7 (pre ++ frC (if (okS x.set (readsF i) && (sizeOk i.size && thereF (psData ps.prog) ps.heap (adF x i) (wI i.size))) = true then goF (setD x i.d (leF (getM l) (adF x i) i.size.toNat)) else x) a)] ++ frR (if (okS x.set (readsF i) && (sizeOk i.size && thereF (psData ps.prog) ps.heap (adF x i) (wI i.size))) = true then goF (setD x i.d (leF (getM l) (adF x i) i.size.toNat)) else x) a) ++ (memE 114 pg l)) :=
 (do32Ld_ s g n c pg ps pre x a i l hx hpg hl hd hz0 hz1 hk ha hb hdr hr hg hat).less fun t S' ⟨h1, h2⟩ => ⟨_, h2, h1, rfl⟩
end Go.Proofs.Ytlfklgganokgdaa

namespace Go.Proofs.Ytlfklgganokgdaa
open Go Go.RowKit

theorem V.readV_len {nb : Nat} {p : V.PW} (h : V.RP nb p) (fd n : Int) : (V.readV fd n p).1.length ≤ nb := by
 unfold V.readV
 split
 ·have := h.pb.sin
  rw [List.length_take]; omega
 split
 ·simp only [List.length_take, List.length_drop]
  cases hg : V.getP (p.opn.getD fd.toNat default).name p.files with
  | none => simp
  | some b =>
   have := h.pb.fl _ (V.getP_mem hg)
   simp only [Option.getD_some]
   dsimp only at this
   omega
 exact Nat.zero_le _
set_option maxHeartbeats 4000000 in
theorem reads66 (s pg wb wm : Nat) (cc : Pc) (lab cl : T) (l : List Pg) (ws : V.WS) (nb : Nat) (hl : PgOk l) (hd : cc.prog.data.length ≤ 1048576) (hz0 : 0 ≤ cc.prog.zero) (hz1 : cc.prog.zero ≤ 268435456) (hw : V.RP nb (V.absW ws)) (hnb : nb ≤ 549755813888) (fd : Int) (a n : Wd64) :
    ACalls Try.prog 66 [.v (.pointer (some ⟨s, 0, none⟩)), zi fd, zw a, zw n] ((Ent.box s 80 (psC (psOf cc lab (V.wp wb) (mapT pg)) cl) :: memE 114 pg l) ++ V.WSt wb wm ws) (fun t S => t = zi (rdM cc (getM l) (V.absW ws) fd a n).n ∧ ∃ l' ws', S = ((Ent.box s 80 (psC (psOf cc lab (V.wp wb) (mapT pg)) cl) :: memE 114 pg l') ++ V.WSt wb wm ws') ∧ PgOk l' ∧ getM l' = (rdM cc (getM l) (V.absW ws) fd a n).mem ∧ V.absW ws' = (rdM cc (getM l) (V.absW ws) fd a n).w) := by
 refine ACalls.intro Try.func66 rfl Try.ntmps66 nB rfl fun X w0 => ?_
 refine ra ?_
 refine AW.seq ?_
 refine rs (ym ?_)
 refine Y1 (Yv.gtrW (b := 2147483648#64) rfl eV eV) (nl ?_)
 refine AW.cond rfl (fun h0t => ?_) (fun h0f => ?_)
 ·try replace h0t := odt h0t
  refine ra ?_
  refine AW.ret (retI (.tmp rfl .nil) ?_)
  rw [rdM, if_pos h0t]
  exact ⟨rfl, l, ws, rfl, hl, rfl, rfl⟩
 try replace h0f := odf h0f
 refine AW.skip ?_
 refine AW.seq ?_
 refine rs (ym ?_)
 refine Y1 (Yv.gtrW (b := 0#64) rfl eV eV) ?_
 refine ym ?_
 refine gT (Yv.move rfl eV) ?_
 refine gT (Yv.move rfl eV) ?_
 refine gT (Yv.move rfl eV) ?_
 refine AWL.callKgT rfl rfl rfl rfl (B rfl) rfl ce_64 (E rfl rfl) (evsC (Eg rfl rfl id) (evsC (Eg rfl rfl id) (evsC (Eg rfl rfl id) evs0))) (S1 := [Ent.box s 80 (psC (psOf cc lab (V.wp wb) (mapT pg)) cl)]) (S2 := _) rfl (fun hg => there64 s (psOf cc lab (V.wp wb) (mapT pg)) cl a n hd hz0 hz1) (fun t S h => h) ?_
 refine gT (Yv.not rfl (Eg rfl rfl id)) ?_
 refine Y1 (Yv.pickAnd rfl eV (Eg rfl rfl id)) (nl ?_)
 refine AW.cond rfl (fun h1t => ?_) (fun h1f => ?_)
 ·try replace h1t := odt h1t
  have hbad : badMem cc a n = true := h1t
  refine ra ?_
  refine AW.ret (retI (.tmp rfl .nil) ?_)
  rw [rdM, if_neg h0f, if_pos hbad]
  exact ⟨rfl, l, ws, rfl, hl, rfl, rfl⟩
 try replace h1f := odf h1f
 have hbad : badMem cc a n = false := h1f
 refine AW.skip ?_
 refine rs (ym ?_)
 refine Y1 (Yv.nilChk rfl eV) ?_
 refine yf fo_80_4 ?_
 refine yl ag_34 0 ?_
 refine ym ?_
 refine ym ?_
 refine AWL.callE rfl rfl (B rfl) rfl ce_75 (E rfl rfl) (evsC (E rfl rfl) (evsC (E rfl rfl) (evsC (E rfl rfl) evs0))) (F1 := (Ent.box s 80 (psC (psOf cc lab (V.wp wb) (mapT pg)) cl) :: memE 114 pg l)) (S1 := (V.WSt wb wm ws)) rfl (V.rSysRead wb wm ws nb hw hnb fd n.toNat (by have := n.isLt; omega)) ?_
 rintro t30 S30 ⟨rfl, ws2, hws2, rfl⟩
 have hTl : (V.readV fd (n.toNat : Int) (V.absW ws)).1.length ≤ 549755813888 := Nat.le_trans (V.readV_len hw fd _) hnb
 refine ym ?_
 refine Y1 (Yv.extract rfl eV rfl) ?_
 refine Y1 (Yv.extract rfl eV rfl) ?_
 refine Y1 (Yv.assign rfl eV) ?_
 refine ya ?_
 refine AW.seq ?_
 refine rs (ym ?_)
 refine Y1 (Yv.lenL rfl st_9 eV) ?_
 refine ym (nl ?_)
 refine AW.block ?_
 refine AW.loop2 (fun (k : Nat) (l2 : List Pg) => [(0, true, pv s), (2, true, zw a), (9, true, sv (V.readV fd (n.toNat : Int) (V.absW ws)).1), (10, true, zi (V.readV fd (n.toNat : Int) (V.absW ws)).2), (34, true, .v (.int .i64 ((V.readV fd (n.toNat : Int) (V.absW ws)).1.length : Int))), (35, true, .v (.int .i64 (k : Int)))]) (fun (k : Nat) (l2 : List Pg) => ((Ent.box s 80 (psC (psOf cc lab (V.wp wb) (mapT pg)) cl) :: memE 114 pg l2) ++ V.WSt wb wm ws2)) (fun (k : Nat) (l2 : List Pg) => k ≤ (V.readV fd (n.toNat : Int) (V.absW ws)).1.length ∧ PgOk l2 ∧ getM l2 = putsN (getM l) a (V.readV fd (n.toNat : Int) (V.absW ws)).1 k) (fun (k : Nat) (l2 : List Pg) => (V.readV fd (n.toNat : Int) (V.absW ws)).1.length - k) 0 l ?_ ?_ ?_ ?_
 ·exact ⟨Nat.zero_le _, hl, rfl⟩
 ·exact (su (su (su (su (su (su sn))))))
 ·rfl
 intro k l2 ⟨hk0, hl2, hg2⟩
 refine rs (Y1 (Yv.lss rfl eV eV) (nl ?_))
 refine AW.seq ?_
 refine AW.cond rfl (fun h2t => ?_) (fun h2f => ?_)
 ·try replace h2t := odt h2t
  refine AW.skip ?_
  refine AW.seq ?_
  refine AW.block ?_
  refine rs (ym ?_)
  refine ya ?_
  refine AW.region ?_
  refine ym ?_
  refine ym ?_
  refine ym ?_
  refine Y1 (Yv.convW rfl Try.underlying3 kd_39 eV) ?_
  refine Y1 (Yv.addW rfl eV eV) ?_
  refine ym ?_
  refine ym ?_
  refine Y1 (Yv.indexL rfl st_9 eV eV (fun hg => ⟨rfl, by omega⟩)) ?_
  refine C1 rfl ce_30 (E rfl rfl) (evsC (E rfl rfl) (evsC (E rfl rfl) (evsC (E rfl rfl) evs0))) (S1 := (Ent.box s 80 (psC (psOf cc lab (V.wp wb) (mapT pg)) cl) :: memE 114 pg l2)) (S2 := _) rfl (put30 s pg (psOf cc lab (V.wp wb) (mapT pg)) cl l2 rfl hl2 (a + wI (k : Int)) ((V.readV fd (n.toNat : Int) (V.absW ws)).1.getD k 0)) ?_
  rintro t46 S46 ⟨rfl, l3, rfl, hl3, hg3⟩
  refine nl ?_
  refine AW.region ?_
  refine Y1 (Yv.addN_i64 rfl eV eV (fun hg => by omega)) ?_
  refine ym (nl ?_)
  refine ⟨k + 1, l3, ⟨by omega, hl3, by rw [hg3, hg2]; rfl⟩, by omega, (su (su (su (su (su (Sub.cons rfl (by simp) Sub.nil)))))), rfl⟩
 try replace h2f := odf h2f
 obtain rfl : k = (V.readV fd (n.toNat : Int) (V.absW ws)).1.length := by omega
 refine AW.exit ?_
 refine rs (ym ?_)
 refine ya ?_
 refine AW.ret (retI (.tmp rfl .nil) ?_)
 rw [rdM, if_neg h0f, if_neg (by rw [hbad]; decide)]
 exact ⟨rfl, l2, ws2, rfl, hl2, hg2, hws2⟩

theorem bytes_len (m : Mf) (a : Wd64) (n : Nat) : (bytesAt m a n).length = n := by unfold bytesAt; simp
def bJ (m : Mf) (a : Wd64) (n k : Nat) : List UInt8 := bytesAt m a k ++ List.replicate (n - k) 0
theorem bj_len {m : Mf} {a : Wd64} {n k : Nat} (h : k ≤ n) : (bJ m a n k).length = n := by
 unfold bJ; rw [List.length_append, bytes_len, List.length_replicate]; omega
theorem bj_zero {m : Mf} {a : Wd64} {n : Nat} : (List.replicate n ([Value.int .u8 0].map T.v)).flatten = (bJ m a n 0).map u8 := by
 rw [mk_rep]
 show _ = (([] : List UInt8) ++ List.replicate (n - 0) 0).map u8
 rw [List.nil_append, Nat.sub_zero, List.map_replicate]; rfl
theorem bj_all {m : Mf} {a : Wd64} {n : Nat} : bJ m a n n = bytesAt m a n := by
 unfold bJ; rw [Nat.sub_self]; simp
theorem bytes_succ (m : Mf) (a : Wd64) (k : Nat) : bytesAt m a (k + 1) = bytesAt m a k ++ [m (a + wI (k : Int))] := by
 unfold bytesAt
 rw [List.range_succ, List.map_append]; rfl
theorem bj_succ {m : Mf} {a : Wd64} {n k : Nat} (h : k < n) : ((bJ m a n k).map u8).set (k * 1) (u8 (m (a + wI (k : Int)))) = (bJ m a n (k + 1)).map u8 := by
 rw [Nat.mul_one, ← List.map_set]
 congr 1
 unfold bJ
 rw [bytes_succ, show n - k = (n - (k + 1)) + 1 by omega, List.replicate_succ, List.set_append_right _ _ (by rw [bytes_len]; exact Nat.le_refl _), bytes_len, Nat.sub_self, List.append_assoc]
 rfl
set_option maxHeartbeats 4000000 in
theorem writes67_ (s pg wb wm : Nat) (cc : Pc) (lab cl : T) (l : List Pg) (ws : V.WS) (nb : Nat) (hl : PgOk l) (hd : cc.prog.data.length ≤ 1048576) (hz0 : 0 ≤ cc.prog.zero) (hz1 : cc.prog.zero ≤ 268435456) (hw : V.RP nb (V.absW ws)) (hnb : nb ≤ 549755813888) (fd : Int) (a n : Wd64) :
    ACalls Try.prog 67 [.v (.pointer (some ⟨s, 0, none⟩)), zi fd, zw a, zw n] ((Ent.box s 80 (psC (psOf cc lab (V.wp wb) (mapT pg)) cl) :: memE 114 pg l) ++ V.WSt wb wm ws) (fun t S => t = zi (wrM cc (getM l) (V.absW ws) fd a n).n ∧ ∃ ws', (((Ent.box s 80 (psC (psOf cc lab (V.wp wb) (mapT pg)) cl) :: memE 114 pg l) ++ V.WSt wb wm ws')).Sublist S ∧ getM l = (wrM cc (getM l) (V.absW ws) fd a n).mem ∧ V.absW ws' = (wrM cc (getM l) (V.absW ws) fd a n).w) := by
 refine ACalls.intro Try.func67 rfl Try.ntmps67 nB rfl fun X w0 => ?_
 refine ra ?_
 refine AW.seq ?_
 refine rs (ym ?_)
 refine Y1 (Yv.gtrW (b := 2147483648#64) rfl eV eV) (nl ?_)
 refine AW.cond rfl (fun h0t => ?_) (fun h0f => ?_)
 ·try replace h0t := odt h0t
  refine ra ?_
  refine AW.ret (retI (.tmp rfl .nil) ?_)
  rw [wrM, if_pos h0t]
  exact ⟨rfl, ws, List.Sublist.refl _, rfl, rfl⟩
 try replace h0f := odf h0f
 have hn31 : n.toNat ≤ 2147483648 := by
  have h := BitVec.not_lt.1 h0f
  rw [BitVec.le_def] at h
  exact h
 refine AW.skip ?_
 refine AW.seq ?_
 refine rs (ym ?_)
 refine Y1 (Yv.gtrW (b := 0#64) rfl eV eV) ?_
 refine ym ?_
 refine gT (Yv.move rfl eV) ?_
 refine gT (Yv.move rfl eV) ?_
 refine gT (Yv.move rfl eV) ?_
 refine AWL.callKgT rfl rfl rfl rfl (B rfl) rfl ce_64 (E rfl rfl) (evsC (Eg rfl rfl id) (evsC (Eg rfl rfl id) (evsC (Eg rfl rfl id) evs0))) (S1 := [Ent.box s 80 (psC (psOf cc lab (V.wp wb) (mapT pg)) cl)]) (S2 := _) rfl (fun hg => there64 s (psOf cc lab (V.wp wb) (mapT pg)) cl a n hd hz0 hz1) (fun t S h => h) ?_
 refine gT (Yv.not rfl (Eg rfl rfl id)) ?_
 refine Y1 (Yv.pickAnd rfl eV (Eg rfl rfl id)) (nl ?_)
 refine AW.cond rfl (fun h1t => ?_) (fun h1f => ?_)
 ·try replace h1t := odt h1t
  have hbad : badMem cc a n = true := h1t
  refine ra ?_
  refine AW.ret (retI (.tmp rfl .nil) ?_)
  rw [wrM, if_neg h0f, if_pos hbad]
  exact ⟨rfl, ws, List.Sublist.refl _, rfl, rfl⟩
 try replace h1f := odf h1f
 have hbad : badMem cc a n = false := h1f
 refine AW.skip ?_
 refine rs (ym ?_)
 refine AWL.makeRow (n := n.toNat) (c := n.toNat) rfl rfl (B rfl) rfl el_23 (E rfl rfl) (E rfl rfl) (Nat.le_refl _) (by omega) (by unfold maxLen; omega) (fun A23 => ?_)
 refine AWL.perm (List.perm_append_singleton _ _).symm ?_
 refine ya ?_
 rw [bj_zero]
 refine AW.seq ?_
 refine rs (ym ?_)
 refine Y1 (Yv.lenV rfl so_23 eV) ?_
 refine ym (nl ?_)
 refine AW.block ?_
 refine AW.loop (fun (k : Nat) => [(0, true, pv s), (1, true, zi fd), (2, true, zw a), (9, true, .v (.slice A23 n.toNat n.toNat)), (25, true, .v (.int .i64 (n.toNat : Int))), (26, true, .v (.int .i64 (k : Int)))]) (fun (k : Nat) => (Ent.row A23 n.toNat n.toNat 5 1 ((bJ (getM l) a n.toNat k).map u8) :: ((Ent.box s 80 (psC (psOf cc lab (V.wp wb) (mapT pg)) cl) :: memE 114 pg l) ++ V.WSt wb wm ws))) (fun (k : Nat) => k ≤ n.toNat) (fun (k : Nat) => n.toNat - k) 0 ?_ ?_ ?_ ?_
 ·exact Nat.zero_le _
 ·exact (su (su (su (su (su (su sn))))))
 ·rfl
 intro k hk0
 refine rs (Y1 (Yv.lss rfl eV eV) (nl ?_))
 refine AW.seq ?_
 refine AW.cond rfl (fun h2t => ?_) (fun h2f => ?_)
 ·try replace h2t := odt h2t
  refine AW.skip ?_
  refine AW.seq ?_
  refine AW.block ?_
  refine rs (ym ?_)
  refine ya ?_
  refine AW.region ?_
  refine ym ?_
  refine ym ?_
  refine ym ?_
  refine ym ?_
  refine ym ?_
  refine Y1 (Yv.convW rfl Try.underlying3 kd_39 eV) ?_
  refine Y1 (Yv.addW rfl eV eV) ?_
  refine AWL.callKP rfl rfl (B rfl) rfl ce_65 (E rfl rfl) (evsC (E rfl rfl) (evsC (E rfl rfl) evs0)) (S1 := (Ent.box s 80 (psC (psOf cc lab (V.wp wb) (mapT pg)) cl) :: memE 114 pg l)) (S2 := (Ent.row A23 n.toNat n.toNat 5 1 ((bJ (getM l) a n.toNat k).map u8) :: V.WSt wb wm ws)) (List.perm_middle (a := Ent.row A23 n.toNat n.toNat 5 1 ((bJ (getM l) a n.toNat k).map u8)) (l₁ := (Ent.box s 80 (psC (psOf cc lab (V.wp wb) (mapT pg)) cl) :: memE 114 pg l)) (l₂ := V.WSt wb wm ws)).symm (get65 s pg (psOf cc lab (V.wp wb) (mapT pg)) cl l rfl hl (a + wI (k : Int))) (fun t S h => h) ?_
  refine Y1 (Yv.indexRow (j := k) rfl ss_23 (i := 0) rfl eV eV (fun hg => ⟨rfl, by omega⟩)) ?_
  refine AWL.storeEp1 (i := 0) rfl rfl rfl ag_5 rfl (E rfl rfl) (E rfl rfl) rfl rfl (by rw [List.length_map, bj_len (by omega)]; omega) (nl ?_)
  refine AW.region ?_
  refine Y1 (Yv.addN_i64 rfl eV eV (fun hg => by omega)) ?_
  refine ym (nl ?_)
  refine ⟨k + 1, by omega, by omega, (su (su (su (su (su (Sub.cons rfl (by simp) Sub.nil)))))), ?_⟩
  rw [← bj_succ (show k < n.toNat by omega)]
  rfl
 try replace h2f := odf h2f
 obtain rfl : k = n.toNat := by omega
 refine AW.exit ?_
 refine AW.rseqP rfl ?_
 refine AWP.phase [true, true, true, true, true, true, true] 2 rfl (by kernel_rfl) (by kernel_rfl) ?_
 refine qm ?_
 refine Q1 (Yv.nilChk rfl eV) ?_
 refine qf fo_80_4 ?_
 refine ql ag_34 1 ?_
 refine qm ?_
 refine qm ?_
 rw [bj_all]
 refine Q1 (Yv.bytesStrRow (i := 0) rfl by_23 st_9 rfl eV) ?_
 refine AWQ.nil ?_
 refine p1 7 ?_
 refine AWL.callE rfl rfl (B rfl) rfl ce_76 (E rfl rfl) (evsC (E rfl rfl) (evsC (E rfl rfl) (evsC (E rfl rfl) evs0))) (F1 := (Ent.row A23 n.toNat n.toNat 5 1 ((bytesAt (getM l) a n.toNat).map u8) :: (Ent.box s 80 (psC (psOf cc lab (V.wp wb) (mapT pg)) cl) :: memE 114 pg l))) (S1 := (V.WSt wb wm ws)) rfl (V.rSysWrite wb wm ws nb hw hnb fd (bytesAt (getM l) a n.toNat) (by rw [bytes_len]; omega)) ?_
 rintro t46 S46 ⟨rfl, ws2, hws2, rfl⟩
 refine nl ?_
 refine p1 8 ?_
 refine ya ?_
 refine AWP.done (by kernel_rfl) ?_
 refine AW.ret (retI (.tmp rfl .nil) ?_)
 rw [wrM, if_neg h0f, if_neg (by rw [hbad]; decide)]
 exact ⟨rfl, ws2, List.sublist_cons_self _ _, rfl, hws2⟩

theorem writes67 (s pg wb wm : Nat) (cc : Pc) (lab cl : T) (l : List Pg) (ws : V.WS) (nb : Nat) (hl : PgOk l) (hd : cc.prog.data.length ≤ 1048576) (hz0 : 0 ≤ cc.prog.zero) (hz1 : cc.prog.zero ≤ 268435456) (hw : V.RP nb (V.absW ws)) (hnb : nb ≤ 549755813888) (fd : Int) (a n : Wd64) : ACalls Try.prog 67 [.v (.pointer (some ⟨s, 0, none⟩)), zi fd, zw a, zw n] ((Ent.box s 80 (psC (psOf cc lab (V.wp wb) (mapT pg)) cl) :: memE 114 pg l) ++ V.WSt wb wm ws) (fun t S => t = zi (wrM cc (getM l) (V.absW ws) fd a n).n ∧ ∃ l' ws', S = ((Ent.box s 80 (psC (psOf cc lab (V.wp wb) (mapT pg)) cl) :: memE 114 pg l') ++ V.WSt wb wm ws') ∧ PgOk l' ∧ getM l' = (wrM cc (getM l) (V.absW ws) fd a n).mem ∧ V.absW ws' = (wrM cc (getM l) (V.absW ws) fd a n).w) :=
 (writes67_ s pg wb wm cc lab cl l ws nb hl hd hz0 hz1 hw hnb fd a n).less fun t S' ⟨h1, ws', h2, h3, h4⟩ => ⟨_, h2, h1, l, ws', rfl, hl, h3, h4⟩
theorem u8_is0 {x : UInt8} (h : ((x.toNat : Nat) : Int) = 0) : x = 0 := UInt8.toNat_inj.1 (by show x.toNat = 0; omega)
theorem u8_not0 {x : UInt8} (h : ¬ ((x.toNat : Nat) : Int) = 0) : ¬ x = 0 := fun e => h (by rw [e]; rfl)
theorem or_not {p q : Bool} (h : (p || !q) = true) : p = true ∨ q = false := by cases p <;> cases q <;> simp_all
theorem nor_not {p q : Bool} (h : (p || !q) = false) : ¬ (p = true ∨ q = false) := by cases p <;> cases q <;> simp_all
theorem wI_succ (k : Nat) : wI (k : Int) + 1#64 = wI ((k + 1 : Nat) : Int) := by
 unfold wI
 rw [BitVec.ofInt_natCast, BitVec.ofInt_natCast]
 apply BitVec.eq_of_toNat_eq
 simp
theorem wI_small {k : Nat} (h : k ≤ 256) : (wI (k : Int)).toNat = k := by
 have := wI_nat (k : Int)
 rw [wrap_u64] at this
 omega
theorem wI_lt {k : Nat} (h : wI (k : Int) < 256#64) (hk : k ≤ 256) : k < 256 := by
 rw [BitVec.lt_def, wI_small hk] at h
 exact h
theorem wI_nlt {k : Nat} (hk : k ≤ 256) (h : ¬ wI (k : Int) < 256#64) : k = 256 := by
 rw [BitVec.lt_def, wI_small hk] at h
 have : ¬ k < 256 := h
 omega
set_option maxHeartbeats 4000000 in
theorem opens68_ (s pg wb wm : Nat) (cc : Pc) (lab cl : T) (l : List Pg) (ws : V.WS) (nb : Nat) (hl : PgOk l) (hd : cc.prog.data.length ≤ 1048576) (hz0 : 0 ≤ cc.prog.zero) (hz1 : cc.prog.zero ≤ 268435456) (hw : V.RP nb (V.absW ws)) (hnb : nb ≤ 549755813888) (a : Wd64) (fl : Int) :
    ACalls Try.prog 68 [.v (.pointer (some ⟨s, 0, none⟩)), zw a, zi fl] ((Ent.box s 80 (psC (psOf cc lab (V.wp wb) (mapT pg)) cl) :: memE 114 pg l) ++ V.WSt wb wm ws) (fun t S => t = zi (opM cc (getM l) (V.absW ws) a fl).n ∧ ∃ ws', (((Ent.box s 80 (psC (psOf cc lab (V.wp wb) (mapT pg)) cl) :: memE 114 pg l) ++ V.WSt wb wm ws')).Sublist S ∧ getM l = (opM cc (getM l) (V.absW ws) a fl).mem ∧ V.absW ws' = (opM cc (getM l) (V.absW ws) a fl).w) := by
 refine ACalls.intro Try.func68 rfl Try.ntmps68 nB rfl fun X w0 => ?_
 refine ra ?_
 refine ra ?_
 refine AW.rowNil 5 1 ?_
 refine AW.perm (List.perm_append_singleton _ _).symm ?_
 refine AW.seq ?_
 refine rs (ym (nl ?_))
 refine AW.block ?_
 refine AW.loop4 (fun (k : Nat) (acc : List UInt8) (A : Option Addr) (c : Nat) => [(0, true, pv s), (1, true, zw a), (2, true, zi fl), (7, true, .v (.slice A acc.length c)), (10, true, zw (wI (k : Int)))]) (fun (k : Nat) (acc : List UInt8) (A : Option Addr) (c : Nat) => (Ent.row A acc.length c 5 1 (acc.map u8) :: ((Ent.box s 80 (psC (psOf cc lab (V.wp wb) (mapT pg)) cl) :: memE 114 pg l) ++ V.WSt wb wm ws))) (fun (k : Nat) (acc : List UInt8) (A : Option Addr) (c : Nat) => (k ≤ 256 ∧ acc.length = k) ∧ nameF (fun z => thereC cc z 1#64) (getM l) a (256 - k) k acc = nameF (fun z => thereC cc z 1#64) (getM l) a 256 0 []) (fun (k : Nat) (acc : List UInt8) (A : Option Addr) (c : Nat) => 256 - k) 0 ([]) none 0 ?_ ?_ ?_ ?_
 ·exact ⟨⟨by decide, rfl⟩, rfl⟩
 ·exact (su (su (su (su (su sn)))))
 ·rfl
 intro k acc A c ⟨⟨hk0, hacc⟩, hnm⟩
 refine rs (Y1 (Yv.lssW (b := 256#64) rfl eV eV) (nl ?_))
 refine AW.seq ?_
 refine AW.cond rfl (fun h0t => ?_) (fun h0f => ?_)
 ·try replace h0t := odt h0t
  have hk6 : k < 256 := wI_lt h0t hk0
  refine AW.skip ?_
  refine AW.seq ?_
  refine AW.block ?_
  refine rs (ym ?_)
  refine ya ?_
  refine AW.seq ?_
  refine AW.perm (S' := Ent.box s 80 (psC (psOf cc lab (V.wp wb) (mapT pg)) cl) :: Ent.row A acc.length c 5 1 (acc.map u8) :: (memE 114 pg l ++ V.WSt wb wm ws)) (List.Perm.swap _ _ _) ?_
  refine rs (ym ?_)
  refine ym ?_
  refine Y1 (Yv.addW rfl eV eV) ?_
  refine ym ?_
  refine Y1 (Yv.lssW rfl eV eV) ?_
  refine ym ?_
  refine gF (Yv.move rfl eV) ?_
  refine gF (Yv.move rfl eV) ?_
  refine gF (Yv.move rfl eV) ?_
  refine gF (Yv.addW rfl (Eg rfl rfl id) (Eg rfl rfl id)) ?_
  refine AWL.callKgF rfl rfl rfl rfl (B rfl) rfl ce_64 (E rfl rfl) (evsC (Eg rfl rfl id) (evsC (Eg rfl rfl id) (evsC (E rfl rfl) evs0))) (S1 := [Ent.box s 80 (psC (psOf cc lab (V.wp wb) (mapT pg)) cl)]) (S2 := _) rfl (fun hg => there64 s (psOf cc lab (V.wp wb) (mapT pg)) cl (a + wI (k : Int)) 1#64 hd hz0 hz1) (fun t S h => h) ?_
  refine gF (Yv.not rfl (Eg rfl rfl id)) ?_
  refine Y1 (Yv.pickOr (t := .const (.bool true)) rfl eV (Eg rfl rfl id)) (nl ?_)
  refine AW.perm (S' := Ent.row A acc.length c 5 1 (acc.map u8) :: ((Ent.box s 80 (psC (psOf cc lab (V.wp wb) (mapT pg)) cl) :: memE 114 pg l) ++ V.WSt wb wm ws)) (List.Perm.swap _ _ _) ?_
  refine AW.cond rfl (fun h1t => ?_) (fun h1f => ?_)
  ·try replace h1t := odt h1t
   have hth : decide ((a + wI (k : Int)) < a) = true ∨ (fun z => thereC cc z 1#64) (a + wI (k : Int)) = false := or_not h1t
   refine ra ?_
   refine AW.ret (retI (.tmp rfl .nil) ?_)
   have hn : nameF (fun z => thereC cc z 1#64) (getM l) a 256 0 [] = .bad := by rw [← hnm, show 256 - k = (256 - (k + 1)) + 1 by omega, nameF, if_pos hth]
   rw [opM, hn]
   exact ⟨rfl, ws, List.sublist_cons_self _ _, rfl, rfl⟩
  try replace h1f := odf h1f
  have hth : ¬ (decide ((a + wI (k : Int)) < a) = true ∨ (fun z => thereC cc z 1#64) (a + wI (k : Int)) = false) := nor_not h1f
  refine AW.skip ?_
  refine rs (ym ?_)
  refine ym ?_
  refine ym ?_
  refine Y1 (Yv.addW rfl eV eV) ?_
  refine AWL.callKP rfl rfl (B rfl) rfl ce_65 (E rfl rfl) (evsC (E rfl rfl) (evsC (E rfl rfl) evs0)) (S1 := (Ent.box s 80 (psC (psOf cc lab (V.wp wb) (mapT pg)) cl) :: memE 114 pg l)) (S2 := (Ent.row A acc.length c 5 1 (acc.map u8) :: V.WSt wb wm ws)) (List.perm_middle (a := Ent.row A acc.length c 5 1 (acc.map u8)) (l₁ := (Ent.box s 80 (psC (psOf cc lab (V.wp wb) (mapT pg)) cl) :: memE 114 pg l)) (l₂ := V.WSt wb wm ws)).symm (get65 s pg (psOf cc lab (V.wp wb) (mapT pg)) cl l rfl hl (a + wI (k : Int))) (fun t S h => h) ?_
  refine ya ?_
  refine AW.seq ?_
  refine rs (ym ?_)
  refine Y1 (Yv.eql rfl eV eV) (nl ?_)
  refine AW.cond rfl (fun h2t => ?_) (fun h2f => ?_)
  ·try replace h2t := odt h2t
   have h0 : getM l (a + wI (k : Int)) = 0 := u8_is0 h2t
   refine AW.rseqP rfl ?_
   refine AWP.phase [true, true, true, true, true, true, true] 2 rfl (by kernel_rfl) (by kernel_rfl) ?_
   refine qm ?_
   refine Q1 (Yv.nilChk rfl eV) ?_
   refine qf fo_80_4 ?_
   refine ql ag_34 1 ?_
   refine qm ?_
   refine Q1 (Yv.bytesStrRow (i := 0) rfl by_23 st_9 rfl eV) ?_
   refine qm ?_
   refine AWQ.nil ?_
   refine p1 7 ?_
   refine AWL.callE rfl rfl (B rfl) rfl ce_77 (E rfl rfl) (evsC (E rfl rfl) (evsC (E rfl rfl) (evsC (E rfl rfl) evs0))) (F1 := (Ent.row A acc.length c 5 1 (acc.map u8) :: (Ent.box s 80 (psC (psOf cc lab (V.wp wb) (mapT pg)) cl) :: memE 114 pg l))) (S1 := (V.WSt wb wm ws)) rfl (V.rSysOpen wb wm ws nb hw hnb acc fl) ?_
   rintro t40 S40 ⟨rfl, ws2, hws2, rfl⟩
   refine nl ?_
   refine p1 8 ?_
   refine ya ?_
   refine AWP.done (by kernel_rfl) ?_
   refine AW.ret (retI (.tmp rfl .nil) ?_)
   have hn : nameF (fun z => thereC cc z 1#64) (getM l) a 256 0 [] = .is acc := by rw [← hnm, show 256 - k = (256 - (k + 1)) + 1 by omega, nameF, if_neg hth, if_pos h0]
   rw [opM, hn]
   exact ⟨rfl, ws2, List.sublist_cons_self _ _, rfl, hws2⟩
  try replace h2f := odf h2f
  replace h2f : ¬ getM l (a + wI (k : Int)) = 0 := u8_not0 h2f
  refine AW.skip ?_
  refine AW.region ?_
  refine ym ?_
  refine ym ?_
  refine AWL.buildSlice1 rfl rfl (B rfl) rfl el_23 rfl (evsC (E rfl rfl) evs0) nB rfl rfl ?_
  refine AWL.appendRow (i := 0) rfl rfl (B rfl) rfl el_23 (B rfl) rfl (E rfl rfl) (SrcT.sl so_23 (B rfl) (E rfl rfl) rfl) (by unfold maxLen; omega) (by omega) (fun A44 c44 => ?_)
  refine ya ?_
  refine AW.region ?_
  refine Y1 (Yv.addW (b := 1#64) rfl eV eV) ?_
  refine ym (nl ?_)
  refine ⟨k + 1, acc ++ [getM l (a + wI (k : Int))], A44, c44, ⟨⟨by omega, by rw [List.length_append, hacc]; rfl⟩, ?_⟩, by omega, (su (su (su (Sub.cons rfl (by rw [List.length_append]; rfl) (Sub.cons rfl (by rw [← wI_succ]) Sub.nil))))), ?_⟩
  ·rw [← hnm, show 256 - k = (256 - (k + 1)) + 1 by omega, nameF, if_neg hth, if_neg h2f]
  rw [List.length_append, List.map_append]
  rfl
 try replace h0f := odf h0f
 have hk6 : k = 256 := wI_nlt hk0 h0f
 refine AW.exit ?_
 refine ra ?_
 refine AW.ret (retI (.tmp rfl .nil) ?_)
 have hn : nameF (fun z => thereC cc z 1#64) (getM l) a 256 0 [] = .long := by rw [← hnm, hk6]; rfl
 rw [opM, hn]
 exact ⟨rfl, ws, List.sublist_cons_self _ _, rfl, rfl⟩

theorem opens68 (s pg wb wm : Nat) (cc : Pc) (lab cl : T) (l : List Pg) (ws : V.WS) (nb : Nat) (hl : PgOk l) (hd : cc.prog.data.length ≤ 1048576) (hz0 : 0 ≤ cc.prog.zero) (hz1 : cc.prog.zero ≤ 268435456) (hw : V.RP nb (V.absW ws)) (hnb : nb ≤ 549755813888) (a : Wd64) (fl : Int) : ACalls Try.prog 68 [.v (.pointer (some ⟨s, 0, none⟩)), zw a, zi fl] ((Ent.box s 80 (psC (psOf cc lab (V.wp wb) (mapT pg)) cl) :: memE 114 pg l) ++ V.WSt wb wm ws) (fun t S => t = zi (opM cc (getM l) (V.absW ws) a fl).n ∧ ∃ l' ws', S = ((Ent.box s 80 (psC (psOf cc lab (V.wp wb) (mapT pg)) cl) :: memE 114 pg l') ++ V.WSt wb wm ws') ∧ PgOk l' ∧ getM l' = (opM cc (getM l) (V.absW ws) a fl).mem ∧ V.absW ws' = (opM cc (getM l) (V.absW ws) a fl).w) :=
 (opens68_ s pg wb wm cc lab cl l ws nb hl hd hz0 hz1 hw hnb a fl).less fun t S' ⟨h1, ws', h2, h3, h4⟩ => ⟨_, h2, h1, l, ws', rfl, hl, h3, h4⟩
end Go.Proofs.Ytlfklgganokgdaa

namespace Go.Proofs.Ytlfklgganokgdaa
open Go Go.RowKit

def sX (x : Fr) (i : Ins) (k j : Nat) : Wd64 := if k < j then rA x (i.args.getD k default) else 0#64
theorem sx_succ {x : Fr} {i : Ins} {k : Nat} (h : k < 3) : [zw (sX x i 0 k), zw (sX x i 1 k), zw (sX x i 2 k)].take (0 + k * 1) ++ cellsT (zw (x.r.getD (i.args.getD k default).toNat 0#64)) ++ [zw (sX x i 0 k), zw (sX x i 1 k), zw (sX x i 2 k)].drop (0 + k * 1 + 1) = [zw (sX x i 0 (k + 1)), zw (sX x i 1 (k + 1)), zw (sX x i 2 (k + 1))] := by
 have : k = 0 ∨ k = 1 ∨ k = 2 := by omega
 rcases this with rfl | rfl | rfl <;> rfl
theorem toSys {A W E : St} {X : Ent} : ((X :: E) ++ (W ++ A)).Perm (A ++ X :: (W ++ E)) := by
 refine List.Perm.trans ?_ List.perm_middle.symm
 refine List.Perm.cons X ?_
 rw [← List.append_assoc]
 refine List.perm_append_comm.trans ?_
 exact (List.perm_append_comm (l₁ := W) (l₂ := A)).append_right E
theorem sub_fin2 (X Y W A : St) : ((X ++ Y) ++ W).Sublist (X ++ (Y ++ (W ++ A))) := by
 rw [List.append_assoc]
 exact ((List.sublist_append_left W A).append_left Y).append_left X
theorem sub_fin (X W A : St) : (X ++ W).Sublist (X ++ (W ++ A)) := (List.sublist_append_left W A).append_left X
set_option maxHeartbeats 16000000 in
theorem call55_ (s g n c pg wb wm : Nat) (cc : Pc) (lab : T) (pre : List T) (x : Fr) (a : FA) (i : Ins) (l : List Pg) (ws : V.WS) (nb : Nat) (hx : FrOk x) (hl : PgOk l) (hd : cc.prog.data.length ≤ 1048576) (hz0 : 0 ≤ cc.prog.zero) (hz1 : cc.prog.zero ≤ 268435456) (hw : V.RP nb (V.absW ws)) (hnb : nb ≤ 549755813888) (har : ∀ r ∈ i.args, 0 ≤ r ∧ r < (x.nr : Int)) (hg : i.args.length ≤ 3) :
    ACalls Try.prog 55 [.v (.pointer (some ⟨s, 0, none⟩)), .ep (.slice (some ⟨g, 0, none⟩) n c) pre.length, .agg (insCells i)] ([Ent.box s 80 (psC (psOf cc lab (V.wp wb) (mapT pg)) (.v (.slice (some ⟨g, 0, none⟩) n c))), Ent.row (some ⟨g, 0, none⟩) n c 87 7 (pre ++ frC x a)] ++ frR x a ++ (memE 114 pg l ++ V.WSt wb wm ws)) (fun t S => if i.imm = 60 then t = .tup [zw (wI 0), bv true] ∧ ((Ent.box s 80 (psC (psOf { cc with st := 1, code := codeOf (sysA x i 0) } lab (V.wp wb) (mapT pg)) (.v (.slice (some ⟨g, 0, none⟩) n c))) :: memE 114 pg l ++ V.WSt wb wm ws) ++ ([Ent.row (some ⟨g, 0, none⟩) n c 87 7 (pre ++ frC x a)] ++ frR x a)).Sublist S else match sysR (Mc.mk cc x [] (getM l) (V.absW ws)) i with
    | none => t = .tup [zw 0#64, bv false] ∧ ((Ent.box s 80 (psC (psOf cc lab (V.wp wb) (mapT pg)) (.v (.slice (some ⟨g, 0, none⟩) n c))) :: memE 114 pg l ++ V.WSt wb wm ws) ++ ([Ent.row (some ⟨g, 0, none⟩) n c 87 7 (pre ++ frC x a)] ++ frR x a)).Sublist S
    | some r => t = .tup [zw (wI r.n), bv true] ∧ ∃ l' ws', ((Ent.box s 80 (psC (psOf cc lab (V.wp wb) (mapT pg)) (.v (.slice (some ⟨g, 0, none⟩) n c))) :: memE 114 pg l' ++ V.WSt wb wm ws') ++ ([Ent.row (some ⟨g, 0, none⟩) n c 87 7 (pre ++ frC x a)] ++ frR x a)).Sublist S ∧ PgOk l' ∧ getM l' = r.mem ∧ V.absW ws' = r.w) := by
 have hl1 := hx.r
 refine ACalls.intro Try.func55 rfl Try.ntmps55 nB rfl fun X w0 => ?_
 refine rs ?_
 refine AWL.boxOp rfl rfl (B rfl) rfl (E rfl rfl) rfl (fun b5 => ?_)
 refine AWL.perm (List.perm_append_singleton _ _).symm ?_
 refine Y1 (Yv.assign rfl eV) ?_
 refine ya ?_
 refine rs ?_
 refine AWL.allocOp rfl rfl (B rfl) rfl zc_130 (fun b8 => ?_)
 refine AWL.perm (List.perm_append_singleton _ _).symm (nl ?_)
 refine AW.seq ?_
 refine rs (yf fo_58_10 ?_)
 refine yl ag_47 1 ?_
 refine Y1 (Yv.lenSl rfl so_47 (B rfl) eV len_args) ?_
 refine ym (nl ?_)
 refine AW.block ?_
 refine AW.loop (fun (k : Nat) => [(0, true, pv s), (1, true, .ep (.slice (some ⟨g, 0, none⟩) n c) pre.length), (5, true, pv b5), (8, true, pv b8), (13, true, .sl 1 (i.args.map zi)), (14, true, .v (.int .i64 (i.args.length : Int))), (15, true, .v (.int .i64 (k : Int)))]) (fun (k : Nat) => ([Ent.box b8 130 [zw (sX x i 0 k), zw (sX x i 1 k), zw (sX x i 2 k)], Ent.box b5 58 (insCells i)] ++ ([Ent.box s 80 (psC (psOf cc lab (V.wp wb) (mapT pg)) (.v (.slice (some ⟨g, 0, none⟩) n c))), Ent.row (some ⟨g, 0, none⟩) n c 87 7 (pre ++ frC x a)] ++ frR x a ++ (memE 114 pg l ++ V.WSt wb wm ws)))) (fun (k : Nat) => k ≤ i.args.length) (fun (k : Nat) => i.args.length - k) 0 ?_ ?_ ?_ ?_
 ·exact Nat.zero_le _
 ·exact (su (su (su (su (su (su (su sn)))))))
 ·rfl
 intro k hinv
 refine rs (Y1 (Yv.lss rfl eV eV) (nl ?_))
 refine AW.seq ?_
 refine AW.cond rfl (fun h0t => ?_) (fun h0f => ?_)
 ·try replace h0t := odt h0t
  have hk : k < i.args.length := by omega
  have hkr := har _ (getD_mem (l := i.args) hk)
  refine AW.skip ?_
  refine AW.seq ?_
  refine AW.block ?_
  refine rs (ym ?_)
  refine Y1 (Yv.indexSl rfl ss_47 (B rfl) eV eV (fun hg => ⟨rfl, (by first | omega | (simp only [len_code, len_funs, len_args, len_data, len_zw]; omega))⟩)) ?_
  refine Y1 (Yv.loadRp rfl ag_3 eV (fun hg => arg_at (by omega))) ?_
  refine Y1 (Yv.assign rfl eV) ?_
  refine ya ?_
  refine AW.region ?_
  refine ym ?_
  refine ym ?_
  refine Y1 (Yv.nilChkEp rfl eV) ?_
  refine Y1 (Yv.fieldEp rfl fo_87_2 eV) ?_
  refine Y1 (Yv.loadEp rfl ag_84 (i := 3) rfl eV (fun hg => fr2)) ?_
  refine ym ?_
  refine Y1 (Yv.indexRow (j := (i.args.getD k default).toNat) rfl ss_84 (i := 4) rfl eV eV (fun hg => ⟨(Int.toNat_of_nonneg (by omega)).symm, by omega⟩)) ?_
  refine Y1 (Yv.loadEp rfl ag_39 (i := 4) rfl eV (fun hg => word_at (by omega))) ?_
  refine Y1 (Yv.indexArr (j := k) rfl ar_130 eV eV (fun hg => ⟨rfl, by omega⟩)) ?_
  refine AWL.storeBox (i := 0) rfl rfl rfl ag_39 rfl (E rfl rfl) (E rfl rfl) rfl rfl (by show 0 + k * 1 + 1 ≤ 3; omega) (nl ?_)
  refine AW.region ?_
  refine Y1 (Yv.addN_i64 rfl eV eV (fun hg => by omega)) ?_
  refine ym (nl ?_)
  refine ⟨k + 1, by omega, by omega, (su (su (su (su (su (su (Sub.cons rfl (by simp) Sub.nil))))))), ?_⟩
  rw [← sx_succ (show k < 3 by omega)]
  rfl
 try replace h0f := odf h0f
 obtain rfl : k = i.args.length := by omega
 refine AW.exit ?_
 refine ra ?_
 refine AW.seq ?_
 refine rs (yf fo_58_9 ?_)
 refine yl ag_2 1 (nl ?_)
 refine AW.block ?_
 refine rs (Y1 (Yv.eql rfl eV eV) ?_)
 refine ya ?_
 refine AW.cond rfl (fun h1t => ?_) (fun h1f => ?_)
 ·try replace h1t := odt h1t
  refine AW.region ?_
  refine ym ?_
  refine Y1 (Yv.indexArr (j := 0) rfl ar_130 (E rfl rfl) (E rfl rfl) (fun hg => ⟨rfl, by decide⟩)) ?_
  refine yl ag_39 0 ?_
  refine Y1 (Yv.conv rfl Try.underlying39 kd_2 eV) ?_
  refine Y1 (Yv.indexArr (j := 1) rfl ar_130 (E rfl rfl) (E rfl rfl) (fun hg => ⟨rfl, by decide⟩)) ?_
  refine yl ag_39 0 ?_
  refine Y1 (Yv.indexArr (j := 2) rfl ar_130 (E rfl rfl) (E rfl rfl) (fun hg => ⟨rfl, by decide⟩)) ?_
  refine yl ag_39 0 ?_
  refine AWL.perm (S' := (Ent.box s 80 (psC (psOf cc lab (V.wp wb) (mapT pg)) (.v (.slice (some ⟨g, 0, none⟩) n c))) :: memE 114 pg l ++ V.WSt wb wm ws) ++ (([Ent.row (some ⟨g, 0, none⟩) n c 87 7 (pre ++ frC x a)] ++ frR x a) ++ [Ent.box b8 130 [zw (sX x i 0 i.args.length), zw (sX x i 1 i.args.length), zw (sX x i 2 i.args.length)], Ent.box b5 58 (insCells i)])) (toSys (A := [Ent.box b8 130 [zw (sX x i 0 i.args.length), zw (sX x i 1 i.args.length), zw (sX x i 2 i.args.length)], Ent.box b5 58 (insCells i)]) (X := Ent.box s 80 (psC (psOf cc lab (V.wp wb) (mapT pg)) (.v (.slice (some ⟨g, 0, none⟩) n c)))) (W := ([Ent.row (some ⟨g, 0, none⟩) n c 87 7 (pre ++ frC x a)] ++ frR x a)) (E := (memE 114 pg l ++ V.WSt wb wm ws))) ?_
  refine C1 rfl ce_66 (E rfl rfl) (evsC (E rfl rfl) (evsC (E rfl rfl) (evsC (E rfl rfl) (evsC (E rfl rfl) evs0)))) (S1 := (Ent.box s 80 (psC (psOf cc lab (V.wp wb) (mapT pg)) (.v (.slice (some ⟨g, 0, none⟩) n c))) :: memE 114 pg l ++ V.WSt wb wm ws)) (S2 := _) rfl (reads66 s pg wb wm cc lab (.v (.slice (some ⟨g, 0, none⟩) n c)) l ws nb hl hd hz0 hz1 hw hnb (sI (sX x i 0 i.args.length)) (sX x i 1 i.args.length) (sX x i 2 i.args.length)) ?_
  rintro t42 S42 ⟨rfl, l2, ws2, rfl, hl2, hm2, hw2⟩
  refine ya ?_
  refine rs (ym ?_)
  refine Y1 (Yv.convW rfl Try.underlying2 kd_39 eV) ?_
  refine Y1 (Yv.assign rfl eV) ?_
  refine ya ?_
  refine AW.ret (retI (.tmp rfl (.tmp rfl .nil)) ?_)
  rw [if_neg (by omega), show sysR (Mc.mk cc x [] (getM l) (V.absW ws)) i = some (rdM cc (getM l) (V.absW ws) (sI (sysA x i 0)) (sysA x i 1) (sysA x i 2)) from by unfold sysR; rw [if_pos (by omega)]]
  exact ⟨rfl, l2, ws2, (sub_fin _ _ _), hl2, hm2, hw2⟩
 try replace h1f := odf h1f
 refine rs (Y1 (Yv.eql rfl eV eV) ?_)
 refine ya ?_
 refine AW.cond rfl (fun h2t => ?_) (fun h2f => ?_)
 ·try replace h2t := odt h2t
  refine AW.region ?_
  refine ym ?_
  refine Y1 (Yv.indexArr (j := 0) rfl ar_130 (E rfl rfl) (E rfl rfl) (fun hg => ⟨rfl, by decide⟩)) ?_
  refine yl ag_39 0 ?_
  refine Y1 (Yv.conv rfl Try.underlying39 kd_2 eV) ?_
  refine Y1 (Yv.indexArr (j := 1) rfl ar_130 (E rfl rfl) (E rfl rfl) (fun hg => ⟨rfl, by decide⟩)) ?_
  refine yl ag_39 0 ?_
  refine Y1 (Yv.indexArr (j := 2) rfl ar_130 (E rfl rfl) (E rfl rfl) (fun hg => ⟨rfl, by decide⟩)) ?_
  refine yl ag_39 0 ?_
  refine AWL.perm (S' := (Ent.box s 80 (psC (psOf cc lab (V.wp wb) (mapT pg)) (.v (.slice (some ⟨g, 0, none⟩) n c))) :: memE 114 pg l ++ V.WSt wb wm ws) ++ (([Ent.row (some ⟨g, 0, none⟩) n c 87 7 (pre ++ frC x a)] ++ frR x a) ++ [Ent.box b8 130 [zw (sX x i 0 i.args.length), zw (sX x i 1 i.args.length), zw (sX x i 2 i.args.length)], Ent.box b5 58 (insCells i)])) (toSys (A := [Ent.box b8 130 [zw (sX x i 0 i.args.length), zw (sX x i 1 i.args.length), zw (sX x i 2 i.args.length)], Ent.box b5 58 (insCells i)]) (X := Ent.box s 80 (psC (psOf cc lab (V.wp wb) (mapT pg)) (.v (.slice (some ⟨g, 0, none⟩) n c)))) (W := ([Ent.row (some ⟨g, 0, none⟩) n c 87 7 (pre ++ frC x a)] ++ frR x a)) (E := (memE 114 pg l ++ V.WSt wb wm ws))) ?_
  refine C1 rfl ce_67 (E rfl rfl) (evsC (E rfl rfl) (evsC (E rfl rfl) (evsC (E rfl rfl) (evsC (E rfl rfl) evs0)))) (S1 := (Ent.box s 80 (psC (psOf cc lab (V.wp wb) (mapT pg)) (.v (.slice (some ⟨g, 0, none⟩) n c))) :: memE 114 pg l ++ V.WSt wb wm ws)) (S2 := _) rfl (writes67 s pg wb wm cc lab (.v (.slice (some ⟨g, 0, none⟩) n c)) l ws nb hl hd hz0 hz1 hw hnb (sI (sX x i 0 i.args.length)) (sX x i 1 i.args.length) (sX x i 2 i.args.length)) ?_
  rintro t53 S53 ⟨rfl, l2, ws2, rfl, hl2, hm2, hw2⟩
  refine ya ?_
  refine rs (ym ?_)
  refine Y1 (Yv.convW rfl Try.underlying2 kd_39 eV) ?_
  refine Y1 (Yv.assign rfl eV) ?_
  refine ya ?_
  refine AW.ret (retI (.tmp rfl (.tmp rfl .nil)) ?_)
  rw [if_neg (by omega), show sysR (Mc.mk cc x [] (getM l) (V.absW ws)) i = some (wrM cc (getM l) (V.absW ws) (sI (sysA x i 0)) (sysA x i 1) (sysA x i 2)) from by unfold sysR; rw [if_neg (by omega), if_pos (by omega)]]
  exact ⟨rfl, l2, ws2, (sub_fin _ _ _), hl2, hm2, hw2⟩
 try replace h2f := odf h2f
 refine rs (Y1 (Yv.eql rfl eV eV) ?_)
 refine ya ?_
 refine AW.cond rfl (fun h3t => ?_) (fun h3f => ?_)
 ·try replace h3t := odt h3t
  refine AW.region ?_
  refine ym ?_
  refine Y1 (Yv.indexArr (j := 0) rfl ar_130 (E rfl rfl) (E rfl rfl) (fun hg => ⟨rfl, by decide⟩)) ?_
  refine yl ag_39 0 ?_
  refine Y1 (Yv.indexArr (j := 1) rfl ar_130 (E rfl rfl) (E rfl rfl) (fun hg => ⟨rfl, by decide⟩)) ?_
  refine yl ag_39 0 ?_
  refine Y1 (Yv.conv rfl Try.underlying39 kd_2 eV) ?_
  refine AWL.perm (S' := (Ent.box s 80 (psC (psOf cc lab (V.wp wb) (mapT pg)) (.v (.slice (some ⟨g, 0, none⟩) n c))) :: memE 114 pg l ++ V.WSt wb wm ws) ++ (([Ent.row (some ⟨g, 0, none⟩) n c 87 7 (pre ++ frC x a)] ++ frR x a) ++ [Ent.box b8 130 [zw (sX x i 0 i.args.length), zw (sX x i 1 i.args.length), zw (sX x i 2 i.args.length)], Ent.box b5 58 (insCells i)])) (toSys (A := [Ent.box b8 130 [zw (sX x i 0 i.args.length), zw (sX x i 1 i.args.length), zw (sX x i 2 i.args.length)], Ent.box b5 58 (insCells i)]) (X := Ent.box s 80 (psC (psOf cc lab (V.wp wb) (mapT pg)) (.v (.slice (some ⟨g, 0, none⟩) n c)))) (W := ([Ent.row (some ⟨g, 0, none⟩) n c 87 7 (pre ++ frC x a)] ++ frR x a)) (E := (memE 114 pg l ++ V.WSt wb wm ws))) ?_
  refine C1 rfl ce_68 (E rfl rfl) (evsC (E rfl rfl) (evsC (E rfl rfl) (evsC (E rfl rfl) evs0))) (S1 := (Ent.box s 80 (psC (psOf cc lab (V.wp wb) (mapT pg)) (.v (.slice (some ⟨g, 0, none⟩) n c))) :: memE 114 pg l ++ V.WSt wb wm ws)) (S2 := _) rfl (opens68 s pg wb wm cc lab (.v (.slice (some ⟨g, 0, none⟩) n c)) l ws nb hl hd hz0 hz1 hw hnb (sX x i 0 i.args.length) (sI (sX x i 1 i.args.length))) ?_
  rintro t62 S62 ⟨rfl, l2, ws2, rfl, hl2, hm2, hw2⟩
  refine ya ?_
  refine rs (ym ?_)
  refine Y1 (Yv.convW rfl Try.underlying2 kd_39 eV) ?_
  refine Y1 (Yv.assign rfl eV) ?_
  refine ya ?_
  refine AW.ret (retI (.tmp rfl (.tmp rfl .nil)) ?_)
  rw [if_neg (by omega), show sysR (Mc.mk cc x [] (getM l) (V.absW ws)) i = some (opM cc (getM l) (V.absW ws) (sysA x i 0) (sI (sysA x i 1))) from by unfold sysR; rw [if_neg (by omega), if_neg (by omega), if_pos (by omega)]]
  exact ⟨rfl, l2, ws2, (sub_fin _ _ _), hl2, hm2, hw2⟩
 try replace h3f := odf h3f
 refine rs (Y1 (Yv.eql rfl eV eV) ?_)
 refine ya ?_
 refine AW.cond rfl (fun h4t => ?_) (fun h4f => ?_)
 ·try replace h4t := odt h4t
  refine AW.regionP rfl ?_
  refine AWP.phase [true, true, true, true, true, true, true] 2 rfl (by kernel_rfl) (by kernel_rfl) ?_
  refine qm ?_
  refine Q1 (Yv.nilChk rfl eV) ?_
  refine qf fo_80_4 ?_
  refine ql ag_34 2 ?_
  refine Q1 (Yv.indexArr (j := 0) rfl ar_130 (E rfl rfl) (E rfl rfl) (fun hg => ⟨rfl, by decide⟩)) ?_
  refine ql ag_39 0 ?_
  refine Q1 (Yv.conv rfl Try.underlying39 kd_2 eV) ?_
  refine AWQ.nil ?_
  refine p1 7 ?_
  refine AWL.perm (S' := (Ent.box s 80 (psC (psOf cc lab (V.wp wb) (mapT pg)) (.v (.slice (some ⟨g, 0, none⟩) n c))) :: memE 114 pg l ++ V.WSt wb wm ws) ++ (([Ent.row (some ⟨g, 0, none⟩) n c 87 7 (pre ++ frC x a)] ++ frR x a) ++ [Ent.box b8 130 [zw (sX x i 0 i.args.length), zw (sX x i 1 i.args.length), zw (sX x i 2 i.args.length)], Ent.box b5 58 (insCells i)])) (toSys (A := [Ent.box b8 130 [zw (sX x i 0 i.args.length), zw (sX x i 1 i.args.length), zw (sX x i 2 i.args.length)], Ent.box b5 58 (insCells i)]) (X := Ent.box s 80 (psC (psOf cc lab (V.wp wb) (mapT pg)) (.v (.slice (some ⟨g, 0, none⟩) n c)))) (W := ([Ent.row (some ⟨g, 0, none⟩) n c 87 7 (pre ++ frC x a)] ++ frR x a)) (E := (memE 114 pg l ++ V.WSt wb wm ws))) ?_
  refine AWL.callF rfl rfl (B rfl) rfl ce_69 (E rfl rfl) (evsC (E rfl rfl) (evsC (E rfl rfl) evs0)) (F1 := (Ent.box s 80 (psC (psOf cc lab (V.wp wb) (mapT pg)) (.v (.slice (some ⟨g, 0, none⟩) n c))) :: memE 114 pg l)) (S1 := (V.WSt wb wm ws)) (F2 := (([Ent.row (some ⟨g, 0, none⟩) n c 87 7 (pre ++ frC x a)] ++ frR x a) ++ [Ent.box b8 130 [zw (sX x i 0 i.args.length), zw (sX x i 1 i.args.length), zw (sX x i 2 i.args.length)], Ent.box b5 58 (insCells i)])) (List.append_assoc _ _ _) (V.rSysClose wb wm ws nb hw (sI (sX x i 0 i.args.length))) ?_
  rintro t72 S72 ⟨rfl, ws2, hws2, rfl⟩
  refine nl ?_
  refine p1 8 ?_
  refine ya ?_
  refine AWP.done (by kernel_rfl) ?_
  refine rs (ym ?_)
  refine Y1 (Yv.convW rfl Try.underlying2 kd_39 eV) ?_
  refine Y1 (Yv.assign rfl eV) ?_
  refine ya ?_
  refine AW.ret (retI (.tmp rfl (.tmp rfl .nil)) ?_)
  rw [if_neg (by omega), show sysR (Mc.mk cc x [] (getM l) (V.absW ws)) i = some (clM (getM l) (V.absW ws) (sI (sysA x i 0))) from by unfold sysR; rw [if_neg (by omega), if_neg (by omega), if_neg (by omega), if_pos (by omega)]]
  exact ⟨rfl, l, ws2, sub_fin2 _ _ _ _, hl, rfl, hws2⟩
 try replace h4f := odf h4f
 refine rs (Y1 (Yv.eql rfl eV eV) ?_)
 refine ya ?_
 refine AW.cond rfl (fun h5t => ?_) (fun h5f => ?_)
 ·try replace h5t := odt h5t
  refine AW.regionP rfl ?_
  refine T1 (i := 0) rfl (freeMove rfl (E rfl rfl)) ?_
  refine T1 (i := 1) rfl (freeMove rfl (E rfl rfl)) ?_
  refine T1 (i := 2) rfl (freeArr (j := 0) rfl ar_130 (E rfl rfl) (E rfl rfl) ⟨rfl, by decide⟩) ?_
  refine T1 (i := 6) rfl (freeNil rfl (E rfl rfl)) ?_
  refine T1 (i := 7) rfl (freeField rfl fo_80_8 (E rfl rfl)) ?_
  refine AWP.two (i := 3) (j := 8) (by kernel_rfl) rfl rfl ?_ ?_
  ·refine yl ag_39 0 (nl ?_)
   refine AWP.two (i := 4) (j := 8) (by kernel_rfl) rfl rfl ?_ ?_
   ·refine Y1 (Yv.andW (b := 255#64) rfl eV eV) (nl ?_)
    refine AWP.two (i := 5) (j := 8) (by kernel_rfl) rfl rfl ?_ ?_
    ·refine Y1 (Yv.conv rfl Try.underlying39 kd_3 eV) (nl ?_)
     refine p1 8 ?_
     refine AWL.storeBox (i := 2) rfl rfl rfl ag_3 rfl (E rfl rfl) (E rfl rfl) rfl rfl nB (nl ?_)
     refine p1 9 ?_
     refine Y1 (Yv.nilChk rfl eV) (nl ?_)
     refine p1 10 ?_
     refine yf fo_80_10 (nl ?_)
     refine p1 11 ?_
     refine AWL.storeBox (i := 2) rfl rfl rfl ag_3 rfl (E rfl rfl) (E rfl rfl) rfl rfl nB (nl ?_)
     refine AWP.done (by kernel_rfl) ?_
     refine AW.perm (S' := (Ent.box s 80 (psC (psOf ({ cc with st := 1, code := codeOf (sysA x i 0) }) lab (V.wp wb) (mapT pg)) (.v (.slice (some ⟨g, 0, none⟩) n c))) :: memE 114 pg l ++ V.WSt wb wm ws) ++ (([Ent.row (some ⟨g, 0, none⟩) n c 87 7 (pre ++ frC x a)] ++ frR x a) ++ [Ent.box b8 130 [zw (sX x i 0 i.args.length), zw (sX x i 1 i.args.length), zw (sX x i 2 i.args.length)], Ent.box b5 58 (insCells i)])) (toSys (A := [Ent.box b8 130 [zw (sX x i 0 i.args.length), zw (sX x i 1 i.args.length), zw (sX x i 2 i.args.length)], Ent.box b5 58 (insCells i)]) (X := Ent.box s 80 (psC (psOf ({ cc with st := 1, code := codeOf (sysA x i 0) }) lab (V.wp wb) (mapT pg)) (.v (.slice (some ⟨g, 0, none⟩) n c)))) (W := ([Ent.row (some ⟨g, 0, none⟩) n c 87 7 (pre ++ frC x a)] ++ frR x a)) (E := (memE 114 pg l ++ V.WSt wb wm ws))) ?_
     refine rs (ym ?_)
     refine Y1 (Yv.convW rfl Try.underlying2 kd_39 eV) ?_
     refine Y1 (Yv.assign rfl eV) ?_
     refine ya ?_
     refine AW.ret (retI (.tmp rfl (.tmp rfl .nil)) ?_)
     rw [if_pos (by omega)]
     exact ⟨rfl, sub_fin _ _ _⟩
    refine AWL.storeBox (i := 2) rfl rfl rfl ag_3 rfl (E rfl rfl) (E rfl rfl) rfl rfl nB (nl ?_)
    refine p1 5 ?_
    refine Y1 (Yv.conv rfl Try.underlying39 kd_3 eV) (nl ?_)
    refine p1 9 ?_
    refine Y1 (Yv.nilChk rfl eV) (nl ?_)
    refine p1 10 ?_
    refine yf fo_80_10 (nl ?_)
    refine p1 11 ?_
    refine AWL.storeBox (i := 2) rfl rfl rfl ag_3 rfl (E rfl rfl) (E rfl rfl) rfl rfl nB (nl ?_)
    refine AWP.done (by kernel_rfl) ?_
    refine AW.perm (S' := (Ent.box s 80 (psC (psOf ({ cc with st := 1, code := codeOf (sysA x i 0) }) lab (V.wp wb) (mapT pg)) (.v (.slice (some ⟨g, 0, none⟩) n c))) :: memE 114 pg l ++ V.WSt wb wm ws) ++ (([Ent.row (some ⟨g, 0, none⟩) n c 87 7 (pre ++ frC x a)] ++ frR x a) ++ [Ent.box b8 130 [zw (sX x i 0 i.args.length), zw (sX x i 1 i.args.length), zw (sX x i 2 i.args.length)], Ent.box b5 58 (insCells i)])) (toSys (A := [Ent.box b8 130 [zw (sX x i 0 i.args.length), zw (sX x i 1 i.args.length), zw (sX x i 2 i.args.length)], Ent.box b5 58 (insCells i)]) (X := Ent.box s 80 (psC (psOf ({ cc with st := 1, code := codeOf (sysA x i 0) }) lab (V.wp wb) (mapT pg)) (.v (.slice (some ⟨g, 0, none⟩) n c)))) (W := ([Ent.row (some ⟨g, 0, none⟩) n c 87 7 (pre ++ frC x a)] ++ frR x a)) (E := (memE 114 pg l ++ V.WSt wb wm ws))) ?_
    refine rs (ym ?_)
    refine Y1 (Yv.convW rfl Try.underlying2 kd_39 eV) ?_
    refine Y1 (Yv.assign rfl eV) ?_
    refine ya ?_
    refine AW.ret (retI (.tmp rfl (.tmp rfl .nil)) ?_)
    rw [if_pos (by omega)]
    exact ⟨rfl, sub_fin _ _ _⟩
   refine AWL.storeBox (i := 2) rfl rfl rfl ag_3 rfl (E rfl rfl) (E rfl rfl) rfl rfl nB (nl ?_)
   refine p1 4 ?_
   refine Y1 (Yv.andW (b := 255#64) rfl eV eV) (nl ?_)
   refine p1 5 ?_
   refine Y1 (Yv.conv rfl Try.underlying39 kd_3 eV) (nl ?_)
   refine p1 9 ?_
   refine Y1 (Yv.nilChk rfl eV) (nl ?_)
   refine p1 10 ?_
   refine yf fo_80_10 (nl ?_)
   refine p1 11 ?_
   refine AWL.storeBox (i := 2) rfl rfl rfl ag_3 rfl (E rfl rfl) (E rfl rfl) rfl rfl nB (nl ?_)
   refine AWP.done (by kernel_rfl) ?_
   refine AW.perm (S' := (Ent.box s 80 (psC (psOf ({ cc with st := 1, code := codeOf (sysA x i 0) }) lab (V.wp wb) (mapT pg)) (.v (.slice (some ⟨g, 0, none⟩) n c))) :: memE 114 pg l ++ V.WSt wb wm ws) ++ (([Ent.row (some ⟨g, 0, none⟩) n c 87 7 (pre ++ frC x a)] ++ frR x a) ++ [Ent.box b8 130 [zw (sX x i 0 i.args.length), zw (sX x i 1 i.args.length), zw (sX x i 2 i.args.length)], Ent.box b5 58 (insCells i)])) (toSys (A := [Ent.box b8 130 [zw (sX x i 0 i.args.length), zw (sX x i 1 i.args.length), zw (sX x i 2 i.args.length)], Ent.box b5 58 (insCells i)]) (X := Ent.box s 80 (psC (psOf ({ cc with st := 1, code := codeOf (sysA x i 0) }) lab (V.wp wb) (mapT pg)) (.v (.slice (some ⟨g, 0, none⟩) n c)))) (W := ([Ent.row (some ⟨g, 0, none⟩) n c 87 7 (pre ++ frC x a)] ++ frR x a)) (E := (memE 114 pg l ++ V.WSt wb wm ws))) ?_
   refine rs (ym ?_)
   refine Y1 (Yv.convW rfl Try.underlying2 kd_39 eV) ?_
   refine Y1 (Yv.assign rfl eV) ?_
   refine ya ?_
   refine AW.ret (retI (.tmp rfl (.tmp rfl .nil)) ?_)
   rw [if_pos (by omega)]
   exact ⟨rfl, sub_fin _ _ _⟩
  refine AWL.storeBox (i := 2) rfl rfl rfl ag_3 rfl (E rfl rfl) (E rfl rfl) rfl rfl nB (nl ?_)
  refine p1 3 ?_
  refine yl ag_39 0 (nl ?_)
  refine p1 4 ?_
  refine Y1 (Yv.andW (b := 255#64) rfl eV eV) (nl ?_)
  refine p1 5 ?_
  refine Y1 (Yv.conv rfl Try.underlying39 kd_3 eV) (nl ?_)
  refine p1 9 ?_
  refine Y1 (Yv.nilChk rfl eV) (nl ?_)
  refine p1 10 ?_
  refine yf fo_80_10 (nl ?_)
  refine p1 11 ?_
  refine AWL.storeBox (i := 2) rfl rfl rfl ag_3 rfl (E rfl rfl) (E rfl rfl) rfl rfl nB (nl ?_)
  refine AWP.done (by kernel_rfl) ?_
  refine AW.perm (S' := (Ent.box s 80 (psC (psOf ({ cc with st := 1, code := codeOf (sysA x i 0) }) lab (V.wp wb) (mapT pg)) (.v (.slice (some ⟨g, 0, none⟩) n c))) :: memE 114 pg l ++ V.WSt wb wm ws) ++ (([Ent.row (some ⟨g, 0, none⟩) n c 87 7 (pre ++ frC x a)] ++ frR x a) ++ [Ent.box b8 130 [zw (sX x i 0 i.args.length), zw (sX x i 1 i.args.length), zw (sX x i 2 i.args.length)], Ent.box b5 58 (insCells i)])) (toSys (A := [Ent.box b8 130 [zw (sX x i 0 i.args.length), zw (sX x i 1 i.args.length), zw (sX x i 2 i.args.length)], Ent.box b5 58 (insCells i)]) (X := Ent.box s 80 (psC (psOf ({ cc with st := 1, code := codeOf (sysA x i 0) }) lab (V.wp wb) (mapT pg)) (.v (.slice (some ⟨g, 0, none⟩) n c)))) (W := ([Ent.row (some ⟨g, 0, none⟩) n c 87 7 (pre ++ frC x a)] ++ frR x a)) (E := (memE 114 pg l ++ V.WSt wb wm ws))) ?_
  refine rs (ym ?_)
  refine Y1 (Yv.convW rfl Try.underlying2 kd_39 eV) ?_
  refine Y1 (Yv.assign rfl eV) ?_
  refine ya ?_
  refine AW.ret (retI (.tmp rfl (.tmp rfl .nil)) ?_)
  rw [if_pos (by omega)]
  exact ⟨rfl, sub_fin _ _ _⟩
 try replace h5f := odf h5f
 refine AW.perm (S' := (Ent.box s 80 (psC (psOf cc lab (V.wp wb) (mapT pg)) (.v (.slice (some ⟨g, 0, none⟩) n c))) :: memE 114 pg l ++ V.WSt wb wm ws) ++ (([Ent.row (some ⟨g, 0, none⟩) n c 87 7 (pre ++ frC x a)] ++ frR x a) ++ [Ent.box b8 130 [zw (sX x i 0 i.args.length), zw (sX x i 1 i.args.length), zw (sX x i 2 i.args.length)], Ent.box b5 58 (insCells i)])) (toSys (A := [Ent.box b8 130 [zw (sX x i 0 i.args.length), zw (sX x i 1 i.args.length), zw (sX x i 2 i.args.length)], Ent.box b5 58 (insCells i)]) (X := Ent.box s 80 (psC (psOf cc lab (V.wp wb) (mapT pg)) (.v (.slice (some ⟨g, 0, none⟩) n c)))) (W := ([Ent.row (some ⟨g, 0, none⟩) n c 87 7 (pre ++ frC x a)] ++ frR x a)) (E := (memE 114 pg l ++ V.WSt wb wm ws))) ?_
 refine rs (Y1 (Yv.assign rfl eV) ?_)
 refine ya ?_
 refine AW.ret (retI (.tmp rfl (.tmp rfl .nil)) ?_)
 rw [if_neg (by omega), show sysR (Mc.mk cc x [] (getM l) (V.absW ws)) i = none from by unfold sysR; rw [if_neg (by omega), if_neg (by omega), if_neg (by omega), if_neg (by omega)]]
 exact ⟨rfl, sub_fin _ _ _⟩

end Go.Proofs.Ytlfklgganokgdaa
