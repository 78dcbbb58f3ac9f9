/-
  TEXTS JOINED: BWk3, BWk4, BWk5, BWk6, BWk7, BWk8, GGd, Gk1, GGs, GGn, Gk2, GGi, Gk3, GGe, Gk7, GGf, GGl.
-/
import Derived.Test.YtpgbpdnmjeoeoaaGreatLd
set_option linter.unusedSimpArgs false
set_option linter.unusedVariables false
set_option linter.unusedSectionVars false
set_option linter.unnecessarySimpa false
namespace Go.Proofs.YtpgbpdnmjeoeoaaGreat.B
open Go Go.RowKit

set_option maxHeartbeats 4000000 in
theorem cNew (name : List UInt8) (params : Int) :
    ACalls Tryz.prog 32 [sv name, zi params] [] (fun t S => ∃ b, t = .v (.pointer (some ⟨b, 0, none⟩)) ∧ S = BdE b (bd0 name params) none 0) := by
 refine ACalls.intro Tryz.func32 rfl Tryz.ntmps32 nB rfl fun X w0 => ?_
 refine ra ?_
 refine rs (ym ?_)
 refine ym ?_
 refine ym ?_
 refine Y1 (Yv.buildS rfl sh_93 (evpC eV (evpC eV (evpC eV evp0))) (fun _ => rfl)) ?_
 refine ym ?_
 refine Y1 (Yv.buildS rfl sh_130 (evpC eV (evpC eV evp0)) (fun _ => rfl)) ?_
 refine AWL.boxOp rfl rfl (B rfl) rfl (E rfl rfl) rfl (fun b11 => ?_)
 refine AWL.perm (List.perm_append_singleton _ _).symm ?_
 refine ya ?_
 refine AW.rowNil 98 11 ?_
 refine AW.ret (retI (.tmp rfl .nil) ?_)
 exact ⟨b11, rfl, rfl⟩

set_option maxHeartbeats 4000000 in
theorem cDone_ (p : Nat) (bd : Bd) (A : Option Addr) (c : Nat) :
    ACalls Tryz.prog 35 [pv p] (BdE p bd A c) (fun t S => t = .agg (fnCells (fnB bd))) := by
 refine ACalls.intro Tryz.func35 rfl Tryz.ntmps35 nB rfl fun X w0 => ?_
 refine rs ?_
 refine AWL.allocOp rfl rfl (B rfl) rfl zc_93 (fun b2 => ?_)
 refine AWL.perm (List.perm_append_singleton _ _).symm (nl ?_)
 refine rs (ym ?_)
 refine Y1 (Yv.nilChk rfl eV) ?_
 refine yf fo_130_0 ?_
 refine Y1 (Yv.loadBoxA rfl ag_93 (i := 1) rfl eV rfl rfl) ?_
 refine AWL.storeBox (i := 0) rfl rfl rfl ag_93 rfl (E rfl rfl) (E rfl rfl) rfl rfl nB (nl ?_)
 refine AW.freezeCell 2 0 4 rfl (by decide) rfl rfl ?_
 refine AW.ret (retI (.cellA (i := 0) rfl ag_93 rfl rfl rfl .nil) ?_)
 rfl

theorem cDone (p : Nat) (bd : Bd) (A : Option Addr) (c : Nat) : ACalls Tryz.prog 35 [pv p] (BdE p bd A c) (fun t S => t = .agg (fnCells (fnB bd)) ∧ S = []) := (cDone_ p bd A c).less fun t S' h => ⟨[], List.nil_sublist _, h, rfl⟩
set_option maxHeartbeats 4000000 in
theorem turned142 (k : Int) :
    ACalls Tryz.prog 142 [zi k] [] (fun t S => t = .tup [zi (turnF k).1, bv (turnF k).2]) := by
 refine ACalls.intro Tryz.func142 rfl Tryz.ntmps142 nB rfl fun X w0 => ?_
 refine rs (Y1 (Yv.assign rfl eV) ?_)
 refine ya ?_
 refine AW.seq ?_
 refine rs (ym (nl ?_))
 refine AW.block ?_
 refine rs (Y1 (Yv.eql rfl eV eV) ?_)
 refine ya ?_
 refine AW.cond rfl (fun h0t => ?_) (fun h0f => ?_)
 ·try replace h0t := odt h0t
  refine rs (Y1 (Yv.assign rfl eV) ?_)
  refine ya ?_
  refine AW.ret (retI (.tmp rfl (.tmp rfl .nil)) ?_)
  unfold turnF
  rw [if_pos (by omega)]
  rfl
 try replace h0f := odf h0f
 refine rs (Y1 (Yv.eql rfl eV eV) ?_)
 refine ya ?_
 refine AW.cond rfl (fun h1t => ?_) (fun h1f => ?_)
 ·try replace h1t := odt h1t
  refine rs (Y1 (Yv.assign rfl eV) ?_)
  refine ya ?_
  refine AW.ret (retI (.tmp rfl (.tmp rfl .nil)) ?_)
  unfold turnF
  rw [if_neg (by omega), if_pos (by omega)]
  rfl
 try replace h1f := odf h1f
 refine rs (Y1 (Yv.eql rfl eV eV) ?_)
 refine ya ?_
 refine AW.cond rfl (fun h2t => ?_) (fun h2f => ?_)
 ·try replace h2t := odt h2t
  refine rs (Y1 (Yv.assign rfl eV) ?_)
  refine ya ?_
  refine AW.ret (retI (.tmp rfl (.tmp rfl .nil)) ?_)
  unfold turnF
  rw [if_neg (by omega), if_neg (by omega), if_pos (by omega)]
  rfl
 try replace h2f := odf h2f
 refine rs (Y1 (Yv.eql rfl eV eV) ?_)
 refine ya ?_
 refine AW.cond rfl (fun h3t => ?_) (fun h3f => ?_)
 ·try replace h3t := odt h3t
  refine rs (Y1 (Yv.assign rfl eV) ?_)
  refine ya ?_
  refine AW.ret (retI (.tmp rfl (.tmp rfl .nil)) ?_)
  unfold turnF
  rw [if_neg (by omega), if_neg (by omega), if_neg (by omega), if_pos (by omega)]
  rfl
 try replace h3f := odf h3f
 refine rs (Y1 (Yv.eql rfl eV eV) ?_)
 refine ya ?_
 refine AW.cond rfl (fun h4t => ?_) (fun h4f => ?_)
 ·try replace h4t := odt h4t
  refine rs (Y1 (Yv.assign rfl eV) ?_)
  refine ya ?_
  refine AW.ret (retI (.tmp rfl (.tmp rfl .nil)) ?_)
  unfold turnF
  rw [if_neg (by omega), if_neg (by omega), if_neg (by omega), if_neg (by omega), if_pos (by omega)]
  rfl
 try replace h4f := odf h4f
 refine AW.skip ?_
 refine rs (Y1 (Yv.assign rfl eV) ?_)
 refine ya ?_
 refine AW.ret (retI (.tmp rfl (.tmp rfl .nil)) ?_)
 unfold turnF
 rw [if_neg (by omega), if_neg (by omega), if_neg (by omega), if_neg (by omega), if_neg (by omega)]
 rfl

set_option maxHeartbeats 4000000 in
theorem cUnless (p N : Nat) (bd : Bd) (A : Option Addr) (c : Nat) (ok : BdOk N bd) (hN : N ≤ 99980) (cond a b l : Int) :
    ACalls Tryz.prog 134 [pv p, zi cond, zi a, zi b, zi l] (BdE p bd A c) (BR (mUnless cond a b l) bd p (N + 1) (fun _ => .tup [])) := by
 refine ACalls.intro Tryz.func134 rfl Tryz.ntmps134 nB rfl fun X w0 => ?_
 refine rs (ym ?_)
 refine AWL.callT rfl rfl (B rfl) rfl ce_142 (E rfl rfl) (evsC (E rfl rfl) evs0) (turned142 cond) ?_
 rintro t14 S14 rfl
 refine ym ?_
 refine Y1 (Yv.extract rfl eV rfl) ?_
 refine Y1 (Yv.extract rfl eV rfl) ?_
 refine Y1 (Yv.assign rfl eV) ?_
 refine ya ?_
 refine AW.seq ?_
 refine rs (ym (nl ?_))
 refine AW.cond rfl (fun h0t => ?_) (fun h0f => ?_)
 ·try replace h0t := odt h0t
  refine AW.region ?_
  refine ym ?_
  refine ym ?_
  refine Y1 (Yv.assign rfl eV) ?_
  refine ya ?_
  refine AW.region ?_
  refine ym ?_
  refine ym ?_
  refine ym ?_
  refine ym ?_
  refine ym ?_
  refine cE ce_85 [] (BdE p bd A c) rfl rfl rfl (cIf p N bd A c ok (by omega) ((turnF cond).1) b a l) ?_
  rintro t25 S25 ⟨d1, bd1, A1, c1, e1, ok1, rfl, rfl⟩
  refine nl ?_
  refine retN .nil ?_
  exact ⟨_, _, _, _, (by unfold mUnless; rw [if_pos h0t]; exact e1), ok1, rfl, rfl⟩
 try replace h0f := odf h0f
 refine AW.skip ?_
 refine AW.region ?_
 refine ym ?_
 refine ym ?_
 refine ym ?_
 refine ym ?_
 refine ym ?_
 refine cE ce_85 [] (BdE p bd A c) rfl rfl rfl (cIf p N bd A c ok (by omega) ((turnF cond).1) a b l) ?_
 rintro t25 S25 ⟨d1, bd1, A1, c1, e1, ok1, rfl, rfl⟩
 refine nl ?_
 refine retN .nil ?_
 exact ⟨_, _, _, _, (by unfold mUnless; rw [if_neg (fun q => by rw [h0f] at q; cases q)]; exact e1), ok1, rfl, rfl⟩

set_option maxHeartbeats 4000000 in
theorem cThen (p N K : Nat) (bd : Bd) (A : Option Addr) (c : Nat) (ok : BdOk N bd) (hN : N + K ≤ 99000) (cond a b : Int) (fd : FuncId) (cap : Array Value) (F : St) (f : BM Unit) (hce : calleeB Tryz.prog fd = true) (hdo : (∀ bd' A' c', BdOk (N + 2) bd' → ACalls Tryz.prog fd (cap.toList.map T.v) (F ++ BdE p bd' A' c') (BRF f bd' p (N + 2 + K) F))) :
    ACalls Tryz.prog 80 [pv p, zi cond, zi a, zi b, .v (.func (.func fd) #[] cap)] (F ++ BdE p bd A c) (BRF (mThen cond a b f) bd p (N + 2 + K + 1) F) := by
 refine ACalls.intro Tryz.func80 rfl Tryz.ntmps80 nB rfl fun X w0 => ?_
 refine rs (ym ?_)
 refine cE ce_84 F (BdE p bd A c) rfl rfl rfl (cLabel p N bd A c ok (by omega) ) ?_
 rintro t12 S12 ⟨d1, bd1, A1, c1, e1, ok1, rfl, rfl⟩
 refine ya ?_
 refine rs (ym ?_)
 refine ym ?_
 refine ym ?_
 refine ym ?_
 refine ym ?_
 refine cE ce_134 F (BdE p bd1 A1 c1) rfl rfl rfl (cUnless p (N + 1) bd1 A1 c1 ok1 (by omega) cond a b d1) ?_
 rintro t18 S18 ⟨d2, bd2, A2, c2, e2, ok2, rfl, rfl⟩
 refine nl ?_
 refine rs (ym ?_)
 refine cA hce rfl rfl rfl (hdo bd2 A2 c2 ok2) ?_
 rintro t20 S20 ⟨rfl, bd3, A3, c3, e3, ok3, rfl⟩
 refine nl ?_
 refine AW.region ?_
 refine ym ?_
 refine ym ?_
 refine cE ce_88 F (BdE p bd3 A3 c3) rfl rfl rfl (cAt p (N + 2 + K) bd3 A3 c3 ok3 (by omega) d1) ?_
 rintro t23 S23 ⟨d4, bd4, A4, c4, e4, ok4, rfl, rfl⟩
 refine nl ?_
 refine retN .nil ?_
 exact ⟨rfl, _, _, _, (bq e1).trans ((bq e2).trans ((bq e3).trans e4)), ok4, rfl⟩

set_option maxHeartbeats 4000000 in
theorem cThenC (p N K : Nat) (bd : Bd) (A : Option Addr) (c : Nat) (ok : BdOk N bd) (hN : N + K ≤ 98000) (cond a n : Int) (fd : FuncId) (cap : Array Value) (F : St) (f : BM Unit) (hce : calleeB Tryz.prog fd = true) (hdo : (∀ bd' A' c', BdOk (N + 4) bd' → ACalls Tryz.prog fd (cap.toList.map T.v) (F ++ BdE p bd' A' c') (BRF f bd' p (N + 4 + K) F))) :
    ACalls Tryz.prog 102 [pv p, zi cond, zi a, zi n, .v (.func (.func fd) #[] cap)] (F ++ BdE p bd A c) (BRF (mThenC cond a n f) bd p (N + 4 + K + 1) F) := by
 refine ACalls.intro Tryz.func102 rfl Tryz.ntmps102 nB rfl fun X w0 => ?_
 refine AW.region ?_
 refine ym ?_
 refine ym ?_
 refine ym ?_
 refine ym ?_
 refine ym ?_
 refine cE ce_53 F (BdE p bd A c) rfl rfl rfl (cC p N bd A c ok (by omega) n) ?_
 rintro t15 S15 ⟨d1, bd1, A1, c1, e1, ok1, rfl, rfl⟩
 refine ym ?_
 refine cA ce_80 rfl rfl rfl (cThen p (N + 2) K bd1 A1 c1 ok1 (by omega) cond a d1 fd cap F f hce hdo) ?_
 rintro t17 S17 ⟨rfl, bd2, A2, c2, e2, ok2, rfl⟩
 refine nl ?_
 refine retN .nil ?_
 exact ⟨rfl, _, _, _, (bq e1).trans e2, ok2, rfl⟩

set_option maxHeartbeats 4000000 in
theorem cWhile (p N K K1 : Nat) (bd : Bd) (A : Option Addr) (c : Nat) (ok : BdOk N bd) (hN : N + K + K1 ≤ 98000) (cond : Int) (fs fd : FuncId) (caps cap : Array Value) (F : St) (g : BM (Int × Int)) (f : BM Unit) (hcs : calleeB Tryz.prog fs = true) (hce : calleeB Tryz.prog fd = true) (hsd : (∀ bd' A' c', BdOk (N + 3) bd' → ACalls Tryz.prog fs (caps.toList.map T.v) (F ++ BdE p bd' A' c') (BR2 g bd' p (N + 3 + K1) F))) (hdo : (∀ bd' A' c', BdOk (N + 3 + K1 + 1) bd' → ACalls Tryz.prog fd (cap.toList.map T.v) (F ++ BdE p bd' A' c') (BRF f bd' p (N + 3 + K1 + 1 + K) F))) :
    ACalls Tryz.prog 96 [pv p, zi cond, .v (.func (.func fs) #[] caps), .v (.func (.func fd) #[] cap)] (F ++ BdE p bd A c) (BRF (mWhile cond g f) bd p (N + 3 + K1 + 1 + K + 2) F) := by
 refine ACalls.intro Tryz.func96 rfl Tryz.ntmps96 nB rfl fun X w0 => ?_
 refine rs (ym ?_)
 refine cE ce_84 F (BdE p bd A c) rfl rfl rfl (cLabel p N bd A c ok (by omega) ) ?_
 rintro t13 S13 ⟨d1, bd1, A1, c1, e1, ok1, rfl, rfl⟩
 refine ym ?_
 refine cE ce_84 F (BdE p bd1 A1 c1) rfl rfl rfl (cLabel p (N + 1) bd1 A1 c1 ok1 (by omega) ) ?_
 rintro t15 S15 ⟨d2, bd2, A2, c2, e2, ok2, rfl, rfl⟩
 refine Y1 (Yv.assign rfl eV) ?_
 refine ya ?_
 refine rs (ym ?_)
 refine ym ?_
 refine cE ce_88 F (BdE p bd2 A2 c2) rfl rfl rfl (cAt p (N + 2) bd2 A2 c2 ok2 (by omega) d1) ?_
 rintro t18 S18 ⟨d3, bd3, A3, c3, e3, ok3, rfl, rfl⟩
 refine nl ?_
 refine rs (ym ?_)
 refine AWL.callAll rfl rfl (B rfl) rfl hcs (E rfl rfl) evs0 (hsd bd3 A3 c3 ok3) ?_
 rintro t21 S21 ⟨x4, y4, bd4, A4, c4, rfl, e4, ok4, rfl⟩
 refine ym ?_
 refine Y1 (Yv.extract rfl eV rfl) ?_
 refine Y1 (Yv.extract rfl eV rfl) ?_
 refine Y1 (Yv.assign rfl eV) ?_
 refine ya ?_
 refine rs (ym ?_)
 refine ym ?_
 refine ym ?_
 refine ym ?_
 refine ym ?_
 refine cE ce_134 F (BdE p bd4 A4 c4) rfl rfl rfl (cUnless p (N + 3 + K1) bd4 A4 c4 ok4 (by omega) cond x4 y4 d2) ?_
 rintro t29 S29 ⟨d5, bd5, A5, c5, e5, ok5, rfl, rfl⟩
 refine nl ?_
 refine rs (ym ?_)
 refine cA hce rfl rfl rfl (hdo bd5 A5 c5 ok5) ?_
 rintro t31 S31 ⟨rfl, bd6, A6, c6, e6, ok6, rfl⟩
 refine nl ?_
 refine rs (ym ?_)
 refine ym ?_
 refine cE ce_89 F (BdE p bd6 A6 c6) rfl rfl rfl (cJump p (N + 3 + K1 + 1 + K) bd6 A6 c6 ok6 (by omega) d1) ?_
 rintro t34 S34 ⟨d7, bd7, A7, c7, e7, ok7, rfl, rfl⟩
 refine nl ?_
 refine AW.region ?_
 refine ym ?_
 refine ym ?_
 refine cE ce_88 F (BdE p bd7 A7 c7) rfl rfl rfl (cAt p ((N + 3 + K1 + 1 + K) + 1) bd7 A7 c7 ok7 (by omega) d2) ?_
 rintro t37 S37 ⟨d8, bd8, A8, c8, e8, ok8, rfl, rfl⟩
 refine nl ?_
 refine retN .nil ?_
 exact ⟨rfl, _, _, _, (bq e1).trans ((bq e2).trans ((bq e3).trans ((bq e4).trans ((bq e5).trans ((bq e6).trans ((bq e7).trans e8)))))), ok8, rfl⟩

end Go.Proofs.YtpgbpdnmjeoeoaaGreat.B

namespace Go.Proofs.YtpgbpdnmjeoeoaaGreat.B
open Go Go.RowKit

def mStart2 (v1 : Int) : BM Unit :=
 mSetC (v1) (16777216)
set_option maxHeartbeats 4000000 in
theorem cStart2 (p N : Nat) (bd : Bd) (A : Option Addr) (c : Nat) (ok : BdOk N bd) (hN : N ≤ 90000) (F : St) (i0 g0 : Nat) (h0 : F[i0]? = some (p87 g0 p)) (i1 g1 : Nat) (v1 : Int) (h1 : F[i1]? = some (Ent.box g1 3 [zi v1])) :
    ACalls Tryz.prog 81 [pv g0, pv g1] (F ++ BdE p bd A c) (BRF (mStart2 v1) bd p (N + 1) F) := by
 refine ACalls.intro Tryz.func81 rfl Tryz.ntmps81 nB rfl fun X w0 => ?_
 refine AW.region ?_
 refine Y1 (Yv.loadBox rfl ag_87 (i := i0) (appS (l := F) h0) eV rfl) ?_
 refine Y1 (Yv.loadBox rfl ag_3 (i := i1) (appS (l := F) h1) eV rfl) ?_
 refine cE ce_82 F (BdE p bd A c) rfl rfl rfl (cSetC p N bd A c ok (by omega) v1 16777216) ?_
 rintro t4 S4 ⟨d1, bd1, A1, c1, e1, ok1, rfl, rfl⟩
 refine nl ?_
 refine retN .nil ?_
 exact ⟨rfl, _, _, _, e1, ok1, rfl⟩

def mAlloc1 : BM Unit :=
 mTail ((1 + 5)) []
set_option maxHeartbeats 4000000 in
theorem cAlloc1 (p N : Nat) (bd : Bd) (A : Option Addr) (c : Nat) (ok : BdOk N bd) (hN : N ≤ 90000) (F : St) (i0 g0 : Nat) (h0 : F[i0]? = some (p87 g0 p)) (i1 g1 : Nat) (h1 : F[i1]? = some (Ent.box g1 3 [zi 1])) :
    ACalls Tryz.prog 90 [pv g0, pv g1] (F ++ BdE p bd A c) (BRF (mAlloc1 ) bd p (N + 1) F) := by
 refine ACalls.intro Tryz.func90 rfl Tryz.ntmps90 nB rfl fun X w0 => ?_
 refine AW.region ?_
 refine Y1 (Yv.loadBox rfl ag_87 (i := i0) (appS (l := F) h0) eV rfl) ?_
 refine Y1 (Yv.loadBox rfl ag_3 (i := i1) (appS (l := F) h1) eV rfl) ?_
 refine Y1 (Yv.addN_i64 rfl eV eV (fun hg => by omega)) ?_
 refine cE ce_91 F (BdE p bd A c) rfl rfl rfl ((cTail p N bd A c ok (by omega) ((1 + 5)) []).le (.cons .refl (.cons .refl (.cons nilSl (.refl))))) ?_
 rintro t5 S5 ⟨d1, bd1, A1, c1, e1, ok1, rfl, rfl⟩
 refine nl ?_
 refine retN .nil ?_
 exact ⟨rfl, _, _, _, e1, ok1, rfl⟩

def mMinor1 : BM Unit :=
 mTail ((1 + 3)) []
set_option maxHeartbeats 4000000 in
theorem cMinor1 (p N : Nat) (bd : Bd) (A : Option Addr) (c : Nat) (ok : BdOk N bd) (hN : N ≤ 90000) (F : St) (i0 g0 : Nat) (h0 : F[i0]? = some (p87 g0 p)) (i1 g1 : Nat) (h1 : F[i1]? = some (Ent.box g1 3 [zi 1])) :
    ACalls Tryz.prog 94 [pv g0, pv g1] (F ++ BdE p bd A c) (BRF (mMinor1 ) bd p (N + 1) F) := by
 refine ACalls.intro Tryz.func94 rfl Tryz.ntmps94 nB rfl fun X w0 => ?_
 refine AW.region ?_
 refine Y1 (Yv.loadBox rfl ag_87 (i := i0) (appS (l := F) h0) eV rfl) ?_
 refine Y1 (Yv.loadBox rfl ag_3 (i := i1) (appS (l := F) h1) eV rfl) ?_
 refine Y1 (Yv.addN_i64 rfl eV eV (fun hg => by omega)) ?_
 refine cE ce_91 F (BdE p bd A c) rfl rfl rfl ((cTail p N bd A c ok (by omega) ((1 + 3)) []).le (.cons .refl (.cons .refl (.cons nilSl (.refl))))) ?_
 rintro t5 S5 ⟨d1, bd1, A1, c1, e1, ok1, rfl, rfl⟩
 refine nl ?_
 refine retN .nil ?_
 exact ⟨rfl, _, _, _, e1, ok1, rfl⟩

def mMajor1 (v0 : Int) : BM (Int × Int) :=
 bnd (mCell (320)) fun d1 =>
 rtn ((v0), (d1))
set_option maxHeartbeats 4000000 in
theorem cMajor1 (p N : Nat) (bd : Bd) (A : Option Addr) (c : Nat) (ok : BdOk N bd) (hN : N ≤ 90000) (F : St) (i0 g0 : Nat) (v0 : Int) (h0 : F[i0]? = some (Ent.box g0 3 [zi v0])) (i1 g1 : Nat) (h1 : F[i1]? = some (p87 g1 p)) :
    ACalls Tryz.prog 97 [pv g0, pv g1] (F ++ BdE p bd A c) (BR2 (mMajor1 v0) bd p (N + 4) F) := by
 refine ACalls.intro Tryz.func97 rfl Tryz.ntmps97 nB rfl fun X w0 => ?_
 refine rs (Y1 (Yv.assign rfl eV) ?_)
 refine ya ?_
 refine AW.rseqH (HeldCs [(g0, 0, Value.int .i64 (v0)), (g1, 0, Value.pointer (some ⟨p, 0, none⟩))]) rfl (tells_cs (tcB i0 (appS (l := F) h0) rfl pinV (tcB i1 (appS (l := F) h1) rfl pinV (tc0)))) ?_
 refine T2 (i := 0) rfl (heldB 0 rfl ag_3 (E rfl rfl) rfl (fun _ _ => .v _)) ?_
 refine AWH.one (i := 1) (by kernel_rfl) rfl ?_
 refine Y1 (Yv.loadBox rfl ag_87 (i := i1) (appS (l := F) h1) eV rfl) ?_
 refine AWL.nil (kpH (tcB i0 (appS (l := F) h0) rfl pinV (tcB i1 (appS (l := F) h1) rfl pinV (tc0))) ?_)
 refine AWH.one (i := 2) (by kernel_rfl) rfl ?_
 refine cE ce_87 F (BdE p bd A c) rfl rfl rfl (cCell p N bd A c ok (by omega) 320) ?_
 rintro t6 S6 ⟨d1, bd1, A1, c1, e1, ok1, rfl, rfl⟩
 refine AWL.nil (kpH (tcB i0 (appS (l := F) h0) rfl pinV (tcB i1 (appS (l := F) h1) rfl pinV (tc0))) ?_)
 refine AWH.one (i := 3) (by kernel_rfl) rfl ?_
 refine Y1 (Yv.assign rfl eV) ?_
 refine AWL.nil (kpH (tcB i0 (appS (l := F) h0) rfl pinV (tcB i1 (appS (l := F) h1) rfl pinV (tc0))) ?_)
 refine AWH.one (i := 4) (by kernel_rfl) rfl ?_
 refine Y1 (Yv.assign rfl eV) ?_
 refine AWL.nil (kpH (tcB i0 (appS (l := F) h0) rfl pinV (tcB i1 (appS (l := F) h1) rfl pinV (tc0))) ?_)
 refine AWH.done (by kernel_rfl) ?_
 refine AW.ret (retI (.tmp rfl (.tmp rfl .nil)) ?_)
 exact ⟨_, _, _, _, _, rfl, (bq e1), ok1, rfl⟩

def mMajor2 (v1 : Int) : BM Unit :=
 bnd (mGet (v1) (0)) fun d1 =>
 bnd (mGet (d1) (0)) fun d2 =>
 bnd (mAnd (d2) ((-33))) fun d3 =>
 bnd (mSave (d1) (0) (d3)) fun _ =>
 mIncr (v1) (8)
set_option maxHeartbeats 4000000 in
theorem cMajor2 (p N : Nat) (bd : Bd) (A : Option Addr) (c : Nat) (ok : BdOk N bd) (hN : N ≤ 90000) (F : St) (i0 g0 : Nat) (h0 : F[i0]? = some (p87 g0 p)) (i1 g1 : Nat) (v1 : Int) (h1 : F[i1]? = some (Ent.box g1 3 [zi v1])) :
    ACalls Tryz.prog 98 [pv g0, pv g1] (F ++ BdE p bd A c) (BRF (mMajor2 v1) bd p (N + 12) F) := by
 refine ACalls.intro Tryz.func98 rfl Tryz.ntmps98 nB rfl fun X w0 => ?_
 refine rs (Y1 (Yv.loadBox rfl ag_87 (i := i0) (appS (l := F) h0) eV rfl) ?_)
 refine Y1 (Yv.loadBox rfl ag_3 (i := i1) (appS (l := F) h1) eV rfl) ?_
 refine cE ce_99 F (BdE p bd A c) rfl rfl rfl (cGet p N bd A c ok (by omega) v1 0) ?_
 rintro t5 S5 ⟨d1, bd1, A1, c1, e1, ok1, rfl, rfl⟩
 refine ya ?_
 refine AW.rseqH (HeldCs [(g0, 0, Value.pointer (some ⟨p, 0, none⟩)), (g1, 0, Value.int .i64 (v1))]) rfl (tells_cs (tcB i0 (appS (l := F) h0) rfl pinV (tcB i1 (appS (l := F) h1) rfl pinV (tc0)))) ?_
 refine T2 (i := 0) rfl (heldB 0 rfl ag_87 (E rfl rfl) rfl (fun _ _ => .v _)) ?_
 refine T2 (i := 1) rfl (heldAll (freeMove rfl (E rfl rfl))) ?_
 refine T2 (i := 2) rfl (heldB 0 rfl ag_87 (E rfl rfl) rfl (fun _ _ => .v _)) ?_
 refine T2 (i := 3) rfl (heldB 0 rfl ag_87 (E rfl rfl) rfl (fun _ _ => .v _)) ?_
 refine AWH.one (i := 4) (by kernel_rfl) rfl ?_
 refine ym ?_
 refine AWL.nil (kpH (tcB i0 (appS (l := F) h0) rfl pinV (tcB i1 (appS (l := F) h1) rfl pinV (tc0))) ?_)
 refine AWH.one (i := 5) (by kernel_rfl) rfl ?_
 refine cE ce_99 F (BdE p bd1 A1 c1) rfl rfl rfl (cGet p (N + 2) bd1 A1 c1 ok1 (by omega) d1 0) ?_
 rintro t11 S11 ⟨d2, bd2, A2, c2, e2, ok2, rfl, rfl⟩
 refine AWL.nil (kpH (tcB i0 (appS (l := F) h0) rfl pinV (tcB i1 (appS (l := F) h1) rfl pinV (tc0))) ?_)
 refine AWH.one (i := 6) (by kernel_rfl) rfl ?_
 refine cE ce_100 F (BdE p bd2 A2 c2) rfl rfl rfl (cAnd p (N + 4) bd2 A2 c2 ok2 (by omega) d2 ((-33))) ?_
 rintro t12 S12 ⟨d3, bd3, A3, c3, e3, ok3, rfl, rfl⟩
 refine AWL.nil (kpH (tcB i0 (appS (l := F) h0) rfl pinV (tcB i1 (appS (l := F) h1) rfl pinV (tc0))) ?_)
 refine AWH.one (i := 7) (by kernel_rfl) rfl ?_
 refine cE ce_92 F (BdE p bd3 A3 c3) rfl rfl rfl (cSave p (N + 8) bd3 A3 c3 ok3 (by omega) d1 0 d3) ?_
 rintro t13 S13 ⟨d4, bd4, A4, c4, e4, ok4, rfl, rfl⟩
 refine AWL.nil (kpH (tcB i0 (appS (l := F) h0) rfl pinV (tcB i1 (appS (l := F) h1) rfl pinV (tc0))) ?_)
 refine AWH.done (by kernel_rfl) ?_
 refine AW.region ?_
 refine Y1 (Yv.loadBox rfl ag_87 (i := i0) (appS (l := F) h0) eV rfl) ?_
 refine Y1 (Yv.loadBox rfl ag_3 (i := i1) (appS (l := F) h1) eV rfl) ?_
 refine cE ce_79 F (BdE p bd4 A4 c4) rfl rfl rfl (cIncr p (N + 9) bd4 A4 c4 ok4 (by omega) v1 8) ?_
 rintro t16 S16 ⟨d5, bd5, A5, c5, e5, ok5, rfl, rfl⟩
 refine nl ?_
 refine retN .nil ?_
 exact ⟨rfl, _, _, _, (bq e1).trans ((bq e2).trans ((bq e3).trans ((bq e4).trans (e5)))), ok5, rfl⟩

def mMark11 : BM Unit :=
 mRetC (1)
set_option maxHeartbeats 4000000 in
theorem cMark11 (p N : Nat) (bd : Bd) (A : Option Addr) (c : Nat) (ok : BdOk N bd) (hN : N ≤ 90000) (F : St) (i0 g0 : Nat) (h0 : F[i0]? = some (p87 g0 p)) :
    ACalls Tryz.prog 103 [pv g0] (F ++ BdE p bd A c) (BRF (mMark11 ) bd p (N + 3) F) := by
 refine ACalls.intro Tryz.func103 rfl Tryz.ntmps103 nB rfl fun X w0 => ?_
 refine AW.region ?_
 refine Y1 (Yv.loadBox rfl ag_87 (i := i0) (appS (l := F) h0) eV rfl) ?_
 refine cE ce_34 F (BdE p bd A c) rfl rfl rfl (cRetC p N bd A c ok (by omega) 1) ?_
 rintro t2 S2 ⟨d1, bd1, A1, c1, e1, ok1, rfl, rfl⟩
 refine nl ?_
 refine retN .nil ?_
 exact ⟨rfl, _, _, _, e1, ok1, rfl⟩

def mMark12 (v1 v2 : Int) : BM Unit :=
 bnd (mOpC (10) (v2) (32)) fun d1 =>
 bnd (mSave (v1) (0) (d1)) fun _ =>
 bnd (mCell (320)) fun d3 =>
 bnd (mSave (d3) (0) (v1)) fun _ =>
 bnd (mAddC (d3) (8)) fun d5 =>
 mSetCell (320) (d5)
set_option maxHeartbeats 4000000 in
theorem cMark12 (p N : Nat) (bd : Bd) (A : Option Addr) (c : Nat) (ok : BdOk N bd) (hN : N ≤ 90000) (F : St) (i0 g0 : Nat) (h0 : F[i0]? = some (p87 g0 p)) (i1 g1 : Nat) (v1 : Int) (h1 : F[i1]? = some (Ent.box g1 3 [zi v1])) (i2 g2 : Nat) (v2 : Int) (h2 : F[i2]? = some (Ent.box g2 3 [zi v2])) :
    ACalls Tryz.prog 104 [pv g0, pv g1, pv g2] (F ++ BdE p bd A c) (BRF (mMark12 v1 v2) bd p (N + 17) F) := by
 refine ACalls.intro Tryz.func104 rfl Tryz.ntmps104 nB rfl fun X w0 => ?_
 refine AW.rseqH (HeldCs [(g0, 0, Value.pointer (some ⟨p, 0, none⟩)), (g1, 0, Value.int .i64 (v1)), (g2, 0, Value.int .i64 (v2))]) rfl (tells_cs (tcB i0 (appS (l := F) h0) rfl pinV (tcB i1 (appS (l := F) h1) rfl pinV (tcB i2 (appS (l := F) h2) rfl pinV (tc0))))) ?_
 refine T2 (i := 0) rfl (heldB 0 rfl ag_87 (E rfl rfl) rfl (fun _ _ => .v _)) ?_
 refine T2 (i := 1) rfl (heldB 1 rfl ag_3 (E rfl rfl) rfl (fun _ _ => .v _)) ?_
 refine T2 (i := 2) rfl (heldB 0 rfl ag_87 (E rfl rfl) rfl (fun _ _ => .v _)) ?_
 refine AWH.one (i := 3) (by kernel_rfl) rfl ?_
 refine Y1 (Yv.loadBox rfl ag_3 (i := i2) (appS (l := F) h2) eV rfl) ?_
 refine AWL.nil (kpH (tcB i0 (appS (l := F) h0) rfl pinV (tcB i1 (appS (l := F) h1) rfl pinV (tcB i2 (appS (l := F) h2) rfl pinV (tc0)))) ?_)
 refine AWH.one (i := 4) (by kernel_rfl) rfl ?_
 refine cE ce_78 F (BdE p bd A c) rfl rfl rfl (cOpC p N bd A c ok (by omega) 10 v2 32) ?_
 rintro t8 S8 ⟨d1, bd1, A1, c1, e1, ok1, rfl, rfl⟩
 refine AWL.nil (kpH (tcB i0 (appS (l := F) h0) rfl pinV (tcB i1 (appS (l := F) h1) rfl pinV (tcB i2 (appS (l := F) h2) rfl pinV (tc0)))) ?_)
 refine AWH.one (i := 5) (by kernel_rfl) rfl ?_
 refine cE ce_92 F (BdE p bd1 A1 c1) rfl rfl rfl (cSave p (N + 4) bd1 A1 c1 ok1 (by omega) v1 0 d1) ?_
 rintro t9 S9 ⟨d2, bd2, A2, c2, e2, ok2, rfl, rfl⟩
 refine AWL.nil (kpH (tcB i0 (appS (l := F) h0) rfl pinV (tcB i1 (appS (l := F) h1) rfl pinV (tcB i2 (appS (l := F) h2) rfl pinV (tc0)))) ?_)
 refine AWH.done (by kernel_rfl) ?_
 refine rs (Y1 (Yv.loadBox rfl ag_87 (i := i0) (appS (l := F) h0) eV rfl) ?_)
 refine cE ce_87 F (BdE p bd2 A2 c2) rfl rfl rfl (cCell p (N + 5) bd2 A2 c2 ok2 (by omega) 320) ?_
 rintro t11 S11 ⟨d3, bd3, A3, c3, e3, ok3, rfl, rfl⟩
 refine ya ?_
 refine rs (Y1 (Yv.loadBox rfl ag_87 (i := i0) (appS (l := F) h0) eV rfl) ?_)
 refine ym ?_
 refine Y1 (Yv.loadBox rfl ag_3 (i := i1) (appS (l := F) h1) eV rfl) ?_
 refine cE ce_92 F (BdE p bd3 A3 c3) rfl rfl rfl (cSave p (N + 9) bd3 A3 c3 ok3 (by omega) d3 0 v1) ?_
 rintro t15 S15 ⟨d4, bd4, A4, c4, e4, ok4, rfl, rfl⟩
 refine nl ?_
 refine AW.regionH (HeldCs [(g0, 0, Value.pointer (some ⟨p, 0, none⟩)), (g1, 0, Value.int .i64 (v1)), (g2, 0, Value.int .i64 (v2))]) rfl (tells_cs (tcB i0 (appS (l := F) h0) rfl pinV (tcB i1 (appS (l := F) h1) rfl pinV (tcB i2 (appS (l := F) h2) rfl pinV (tc0))))) ?_
 refine T2 (i := 0) rfl (heldB 0 rfl ag_87 (E rfl rfl) rfl (fun _ _ => .v _)) ?_
 refine T2 (i := 1) rfl (heldB 0 rfl ag_87 (E rfl rfl) rfl (fun _ _ => .v _)) ?_
 refine AWH.one (i := 2) (by kernel_rfl) rfl ?_
 refine ym ?_
 refine AWL.nil (kpH (tcB i0 (appS (l := F) h0) rfl pinV (tcB i1 (appS (l := F) h1) rfl pinV (tcB i2 (appS (l := F) h2) rfl pinV (tc0)))) ?_)
 refine AWH.one (i := 3) (by kernel_rfl) rfl ?_
 refine cE ce_93 F (BdE p bd4 A4 c4) rfl rfl rfl (cAddC p (N + 10) bd4 A4 c4 ok4 (by omega) d3 8) ?_
 rintro t19 S19 ⟨d5, bd5, A5, c5, e5, ok5, rfl, rfl⟩
 refine AWL.nil (kpH (tcB i0 (appS (l := F) h0) rfl pinV (tcB i1 (appS (l := F) h1) rfl pinV (tcB i2 (appS (l := F) h2) rfl pinV (tc0)))) ?_)
 refine AWH.one (i := 4) (by kernel_rfl) rfl ?_
 refine cE ce_76 F (BdE p bd5 A5 c5) rfl rfl rfl (cSetCell p (N + 14) bd5 A5 c5 ok5 (by omega) 320 d5) ?_
 rintro t20 S20 ⟨d6, bd6, A6, c6, e6, ok6, rfl, rfl⟩
 refine AWL.nil (kpH (tcB i0 (appS (l := F) h0) rfl pinV (tcB i1 (appS (l := F) h1) rfl pinV (tcB i2 (appS (l := F) h2) rfl pinV (tc0)))) ?_)
 refine AWH.done (by kernel_rfl) ?_
 refine retN .nil ?_
 exact ⟨rfl, _, _, _, (bq e1).trans ((bq e2).trans ((bq e3).trans ((bq e4).trans ((bq e5).trans (e6))))), ok6, rfl⟩

def mMark1 (v1 : Int) : BM Unit :=
 bnd (mGet (v1) (0)) fun d1 =>
 bnd (mShr (d1) (24)) fun d2 =>
 bnd (mThenC (1) (d2) (0) (mMark11 )) fun _ =>
 bnd (mAnd (d1) (32)) fun d4 =>
 mThenC (1) (d4) (0) (mMark12 (v1) (d1))
set_option maxHeartbeats 4000000 in
theorem cMark1_ (p N : Nat) (bd : Bd) (A : Option Addr) (c : Nat) (ok : BdOk N bd) (hN : N ≤ 80000) (F : St) (i0 g0 : Nat) (h0 : F[i0]? = some (p87 g0 p)) (i1 g1 : Nat) (v1 : Int) (h1 : F[i1]? = some (Ent.box g1 3 [zi v1])) :
    ACalls Tryz.prog 101 [pv g0, pv g1] (F ++ BdE p bd A c) (fun t S => t = .tup [] ∧ ∃ b' A' c', mMark1 v1 bd = ((), b') ∧ BdOk (N + 40) b' ∧ (F ++ BdE p b' A' c').Sublist S) := by
 refine ACalls.intro Tryz.func101 rfl Tryz.ntmps101 nB rfl fun X w0 => ?_
 refine rs (Y1 (Yv.loadBox rfl ag_87 (i := i0) (appS (l := F) h0) eV rfl) ?_)
 refine Y1 (Yv.loadBox rfl ag_3 (i := i1) (appS (l := F) h1) eV rfl) ?_
 refine cE ce_99 F (BdE p bd A c) rfl rfl rfl (cGet p N bd A c ok (by omega) v1 0) ?_
 rintro t5 S5 ⟨d1, bd1, A1, c1, e1, ok1, rfl, rfl⟩
 refine AWL.allocOp rfl rfl (B rfl) rfl zc_3 (fun b2 => ?_)
 refine AWL.perm (List.perm_append_singleton _ _).symm ?_
 refine AWL.storeBox (i := 0) rfl rfl rfl ag_3 rfl (E rfl rfl) (E rfl rfl) rfl rfl nB (nl ?_)
 refine AW.rseqH (HeldCs [(b2, 0, Value.int .i64 (d1)), (g0, 0, Value.pointer (some ⟨p, 0, none⟩)), (g1, 0, Value.int .i64 (v1))]) rfl (tells_cs (tcB 0 rfl rfl pinV (tcB (i0 + 1) (appS (l := F) h0) rfl pinV (tcB (i1 + 1) (appS (l := F) h1) rfl pinV (tc0))))) ?_
 refine T2 (i := 0) rfl (heldB 1 rfl ag_87 (E rfl rfl) rfl (fun _ _ => .v _)) ?_
 refine T2 (i := 1) rfl (heldB 1 rfl ag_87 (E rfl rfl) rfl (fun _ _ => .v _)) ?_
 refine T2 (i := 2) rfl (heldB 0 rfl ag_3 (E rfl rfl) rfl (fun _ _ => .v _)) ?_
 refine T2 (i := 4) rfl (heldAll (freeMk rfl evs0 rfl (evsC (E rfl rfl) evs0) rfl)) ?_
 refine AWH.one (i := 3) (by kernel_rfl) rfl ?_
 refine cE ce_74 (i3 b2 d1 :: F) (BdE p bd1 A1 c1) rfl rfl rfl (cShr p (N + 2) bd1 A1 c1 ok1 (by omega) d1 24) ?_
 rintro t9 S9 ⟨d2, bd2, A2, c2, e2, ok2, rfl, rfl⟩
 refine AWL.nil (kpH (tcB 0 rfl rfl pinV (tcB (i0 + 1) (appS (l := F) h0) rfl pinV (tcB (i1 + 1) (appS (l := F) h1) rfl pinV (tc0)))) ?_)
 refine AWH.one (i := 5) (by kernel_rfl) rfl ?_
 refine cA ce_102 rfl rfl rfl (cThenC p (N + 6) 3 bd2 A2 c2 ok2 (by omega) 1 d2 0 103 #[.pointer (some ⟨g0, 0, none⟩)] (i3 b2 d1 :: F) (mMark11 ) ce_103 (fun bd9 A9 c9 ok9 => cMark11 p _ bd9 A9 c9 ok9 (by omega) (i3 b2 d1 :: F) (i0 + 1) g0 h0)) ?_
 rintro t11 S11 ⟨rfl, bd3, A3, c3, e3, ok3, rfl⟩
 refine AWL.nil (kpH (tcB 0 rfl rfl pinV (tcB (i0 + 1) (appS (l := F) h0) rfl pinV (tcB (i1 + 1) (appS (l := F) h1) rfl pinV (tc0)))) ?_)
 refine AWH.done (by kernel_rfl) ?_
 refine AW.regionH (HeldCs [(b2, 0, Value.int .i64 (d1)), (g0, 0, Value.pointer (some ⟨p, 0, none⟩)), (g1, 0, Value.int .i64 (v1))]) rfl (tells_cs (tcB 0 rfl rfl pinV (tcB (i0 + 1) (appS (l := F) h0) rfl pinV (tcB (i1 + 1) (appS (l := F) h1) rfl pinV (tc0))))) ?_
 refine T2 (i := 0) rfl (heldB 1 rfl ag_87 (E rfl rfl) rfl (fun _ _ => .v _)) ?_
 refine T2 (i := 1) rfl (heldB 1 rfl ag_87 (E rfl rfl) rfl (fun _ _ => .v _)) ?_
 refine T2 (i := 2) rfl (heldB 0 rfl ag_3 (E rfl rfl) rfl (fun _ _ => .v _)) ?_
 refine T2 (i := 4) rfl (heldAll (freeMk rfl evs0 rfl (evsC (E rfl rfl) (evsC (E rfl rfl) (evsC (E rfl rfl) evs0))) rfl)) ?_
 refine AWH.one (i := 3) (by kernel_rfl) rfl ?_
 refine cE ce_100 (i3 b2 d1 :: F) (BdE p bd3 A3 c3) rfl rfl rfl (cAnd p (N + 14) bd3 A3 c3 ok3 (by omega) d1 32) ?_
 rintro t15 S15 ⟨d4, bd4, A4, c4, e4, ok4, rfl, rfl⟩
 refine AWL.nil (kpH (tcB 0 rfl rfl pinV (tcB (i0 + 1) (appS (l := F) h0) rfl pinV (tcB (i1 + 1) (appS (l := F) h1) rfl pinV (tc0)))) ?_)
 refine AWH.one (i := 5) (by kernel_rfl) rfl ?_
 refine cA ce_102 rfl rfl rfl (cThenC p (N + 18) 17 bd4 A4 c4 ok4 (by omega) 1 d4 0 104 #[.pointer (some ⟨g0, 0, none⟩), .pointer (some ⟨g1, 0, none⟩), .pointer (some ⟨b2, 0, none⟩)] (i3 b2 d1 :: F) (mMark12 v1 d1) ce_104 (fun bd9 A9 c9 ok9 => cMark12 p _ bd9 A9 c9 ok9 (by omega) (i3 b2 d1 :: F) (i0 + 1) g0 h0 (i1 + 1) g1 v1 h1 0 b2 d1 rfl)) ?_
 rintro t17 S17 ⟨rfl, bd5, A5, c5, e5, ok5, rfl⟩
 refine AWL.nil (kpH (tcB 0 rfl rfl pinV (tcB (i0 + 1) (appS (l := F) h0) rfl pinV (tcB (i1 + 1) (appS (l := F) h1) rfl pinV (tc0)))) ?_)
 refine AWH.done (by kernel_rfl) ?_
 refine retN .nil ?_
 exact ⟨rfl, _, _, _, (bq e1).trans ((bq e2).trans ((bq e3).trans ((bq e4).trans (e5)))), ok5, List.sublist_cons_self _ _⟩

theorem cMark1 (p N : Nat) (bd : Bd) (A : Option Addr) (c : Nat) (ok : BdOk N bd) (hN : N ≤ 80000) (F : St) (i0 g0 : Nat) (h0 : F[i0]? = some (p87 g0 p)) (i1 g1 : Nat) (v1 : Int) (h1 : F[i1]? = some (Ent.box g1 3 [zi v1])) : ACalls Tryz.prog 101 [pv g0, pv g1] (F ++ BdE p bd A c) (BRF (mMark1 v1) bd p (N + 40) F) := (cMark1_ p N bd A c ok hN F i0 g0 h0 i1 g1 v1 h1).less fun t S' h => by
    obtain ⟨rfl, b', A', c', h1, h2, h3⟩ := h
    exact ⟨_, h3, rfl, b', A', c', h1, h2, rfl⟩
def mCopied1 (v1 : Int) : BM Unit :=
 mRet (v1)
set_option maxHeartbeats 4000000 in
theorem cCopied1 (p N : Nat) (bd : Bd) (A : Option Addr) (c : Nat) (ok : BdOk N bd) (hN : N ≤ 90000) (F : St) (i0 g0 : Nat) (h0 : F[i0]? = some (p87 g0 p)) (i1 g1 : Nat) (v1 : Int) (h1 : F[i1]? = some (Ent.box g1 3 [zi v1])) :
    ACalls Tryz.prog 108 [pv g0, pv g1] (F ++ BdE p bd A c) (BRF (mCopied1 v1) bd p (N + 1) F) := by
 refine ACalls.intro Tryz.func108 rfl Tryz.ntmps108 nB rfl fun X w0 => ?_
 refine AW.region ?_
 refine Y1 (Yv.loadBox rfl ag_87 (i := i0) (appS (l := F) h0) eV rfl) ?_
 refine Y1 (Yv.loadBox rfl ag_3 (i := i1) (appS (l := F) h1) eV rfl) ?_
 refine cE ce_52 F (BdE p bd A c) rfl rfl rfl (cRet p N bd A c ok (by omega) v1) ?_
 rintro t4 S4 ⟨d1, bd1, A1, c1, e1, ok1, rfl, rfl⟩
 refine nl ?_
 refine retN .nil ?_
 exact ⟨rfl, _, _, _, e1, ok1, rfl⟩

def mCopied2 : BM Unit :=
 mTail ((1 + 5)) []
set_option maxHeartbeats 4000000 in
theorem cCopied2 (p N : Nat) (bd : Bd) (A : Option Addr) (c : Nat) (ok : BdOk N bd) (hN : N ≤ 90000) (F : St) (i0 g0 : Nat) (h0 : F[i0]? = some (p87 g0 p)) (i1 g1 : Nat) (h1 : F[i1]? = some (Ent.box g1 3 [zi 1])) :
    ACalls Tryz.prog 109 [pv g0, pv g1] (F ++ BdE p bd A c) (BRF (mCopied2 ) bd p (N + 1) F) := by
 refine ACalls.intro Tryz.func109 rfl Tryz.ntmps109 nB rfl fun X w0 => ?_
 refine AW.region ?_
 refine Y1 (Yv.loadBox rfl ag_87 (i := i0) (appS (l := F) h0) eV rfl) ?_
 refine Y1 (Yv.loadBox rfl ag_3 (i := i1) (appS (l := F) h1) eV rfl) ?_
 refine Y1 (Yv.addN_i64 rfl eV eV (fun hg => by omega)) ?_
 refine cE ce_91 F (BdE p bd A c) rfl rfl rfl ((cTail p N bd A c ok (by omega) ((1 + 5)) []).le (.cons .refl (.cons .refl (.cons nilSl (.refl))))) ?_
 rintro t5 S5 ⟨d1, bd1, A1, c1, e1, ok1, rfl, rfl⟩
 refine nl ?_
 refine retN .nil ?_
 exact ⟨rfl, _, _, _, e1, ok1, rfl⟩

def mCopied3 (v0 v1 : Int) : BM (Int × Int) :=
 rtn ((v0), (v1))
set_option maxHeartbeats 4000000 in
theorem cCopied3 (p N : Nat) (bd : Bd) (A : Option Addr) (c : Nat) (ok : BdOk N bd) (hN : N ≤ 90000) (F : St) (i0 g0 : Nat) (v0 : Int) (h0 : F[i0]? = some (Ent.box g0 3 [zi v0])) (i1 g1 : Nat) (v1 : Int) (h1 : F[i1]? = some (Ent.box g1 3 [zi v1])) :
    ACalls Tryz.prog 110 [pv g0, pv g1] (F ++ BdE p bd A c) (BR2 (mCopied3 v0 v1) bd p N F) := by
 refine ACalls.intro Tryz.func110 rfl Tryz.ntmps110 nB rfl fun X w0 => ?_
 refine rs (Y1 (Yv.assign rfl eV) ?_)
 refine ya ?_
 refine AW.rseqH (HeldCs [(g0, 0, Value.int .i64 (v0)), (g1, 0, Value.int .i64 (v1))]) rfl (tells_cs (tcB i0 (appS (l := F) h0) rfl pinV (tcB i1 (appS (l := F) h1) rfl pinV (tc0)))) ?_
 refine T2 (i := 0) rfl (heldB 0 rfl ag_3 (E rfl rfl) rfl (fun _ _ => .v _)) ?_
 refine T2 (i := 1) rfl (heldB 1 rfl ag_3 (E rfl rfl) rfl (fun _ _ => .v _)) ?_
 refine AWH.one (i := 2) (by kernel_rfl) rfl ?_
 refine Y1 (Yv.assign rfl eV) ?_
 refine AWL.nil (kpH (tcB i0 (appS (l := F) h0) rfl pinV (tcB i1 (appS (l := F) h1) rfl pinV (tc0))) ?_)
 refine AWH.one (i := 3) (by kernel_rfl) rfl ?_
 refine Y1 (Yv.assign rfl eV) ?_
 refine AWL.nil (kpH (tcB i0 (appS (l := F) h0) rfl pinV (tcB i1 (appS (l := F) h1) rfl pinV (tc0))) ?_)
 refine AWH.done (by kernel_rfl) ?_
 refine AW.ret (retI (.tmp rfl (.tmp rfl .nil)) ?_)
 exact ⟨_, _, _, _, _, rfl, rfl, ok, rfl⟩

def mCopied4 (v1 v2 v3 : Int) : BM Unit :=
 bnd (mAdd (v1) (v2)) fun d1 =>
 bnd (mAdd (v3) (v2)) fun d2 =>
 bnd (mGet (d2) (0)) fun d3 =>
 bnd (mSave (d1) (0) (d3)) fun _ =>
 mIncr (v2) (8)
set_option maxHeartbeats 4000000 in
theorem cCopied4 (p N : Nat) (bd : Bd) (A : Option Addr) (c : Nat) (ok : BdOk N bd) (hN : N ≤ 90000) (F : St) (i0 g0 : Nat) (h0 : F[i0]? = some (p87 g0 p)) (i1 g1 : Nat) (v1 : Int) (h1 : F[i1]? = some (Ent.box g1 3 [zi v1])) (i2 g2 : Nat) (v2 : Int) (h2 : F[i2]? = some (Ent.box g2 3 [zi v2])) (i3 g3 : Nat) (v3 : Int) (h3 : F[i3]? = some (Ent.box g3 3 [zi v3])) :
    ACalls Tryz.prog 111 [pv g0, pv g1, pv g2, pv g3] (F ++ BdE p bd A c) (BRF (mCopied4 v1 v2 v3) bd p (N + 10) F) := by
 refine ACalls.intro Tryz.func111 rfl Tryz.ntmps111 nB rfl fun X w0 => ?_
 refine AW.rseqH (HeldCs [(g0, 0, Value.pointer (some ⟨p, 0, none⟩)), (g1, 0, Value.int .i64 (v1)), (g2, 0, Value.int .i64 (v2)), (g3, 0, Value.int .i64 (v3))]) rfl (tells_cs (tcB i0 (appS (l := F) h0) rfl pinV (tcB i1 (appS (l := F) h1) rfl pinV (tcB i2 (appS (l := F) h2) rfl pinV (tcB i3 (appS (l := F) h3) rfl pinV (tc0)))))) ?_
 refine T2 (i := 0) rfl (heldB 0 rfl ag_87 (E rfl rfl) rfl (fun _ _ => .v _)) ?_
 refine T2 (i := 1) rfl (heldB 0 rfl ag_87 (E rfl rfl) rfl (fun _ _ => .v _)) ?_
 refine T2 (i := 2) rfl (heldB 1 rfl ag_3 (E rfl rfl) rfl (fun _ _ => .v _)) ?_
 refine T2 (i := 3) rfl (heldB 2 rfl ag_3 (E rfl rfl) rfl (fun _ _ => .v _)) ?_
 refine T2 (i := 5) rfl (heldB 0 rfl ag_87 (E rfl rfl) rfl (fun _ _ => .v _)) ?_
 refine T2 (i := 6) rfl (heldB 0 rfl ag_87 (E rfl rfl) rfl (fun _ _ => .v _)) ?_
 refine T2 (i := 7) rfl (heldB 3 rfl ag_3 (E rfl rfl) rfl (fun _ _ => .v _)) ?_
 refine T2 (i := 8) rfl (heldB 2 rfl ag_3 (E rfl rfl) rfl (fun _ _ => .v _)) ?_
 refine AWH.one (i := 4) (by kernel_rfl) rfl ?_
 refine cE ce_83 F (BdE p bd A c) rfl rfl rfl (cAdd p N bd A c ok (by omega) v1 v2) ?_
 rintro t8 S8 ⟨d1, bd1, A1, c1, e1, ok1, rfl, rfl⟩
 refine AWL.nil (kpH (tcB i0 (appS (l := F) h0) rfl pinV (tcB i1 (appS (l := F) h1) rfl pinV (tcB i2 (appS (l := F) h2) rfl pinV (tcB i3 (appS (l := F) h3) rfl pinV (tc0))))) ?_)
 refine AWH.one (i := 9) (by kernel_rfl) rfl ?_
 refine cE ce_83 F (BdE p bd1 A1 c1) rfl rfl rfl (cAdd p (N + 2) bd1 A1 c1 ok1 (by omega) v3 v2) ?_
 rintro t13 S13 ⟨d2, bd2, A2, c2, e2, ok2, rfl, rfl⟩
 refine AWL.nil (kpH (tcB i0 (appS (l := F) h0) rfl pinV (tcB i1 (appS (l := F) h1) rfl pinV (tcB i2 (appS (l := F) h2) rfl pinV (tcB i3 (appS (l := F) h3) rfl pinV (tc0))))) ?_)
 refine AWH.one (i := 10) (by kernel_rfl) rfl ?_
 refine cE ce_99 F (BdE p bd2 A2 c2) rfl rfl rfl (cGet p (N + 4) bd2 A2 c2 ok2 (by omega) d2 0) ?_
 rintro t14 S14 ⟨d3, bd3, A3, c3, e3, ok3, rfl, rfl⟩
 refine AWL.nil (kpH (tcB i0 (appS (l := F) h0) rfl pinV (tcB i1 (appS (l := F) h1) rfl pinV (tcB i2 (appS (l := F) h2) rfl pinV (tcB i3 (appS (l := F) h3) rfl pinV (tc0))))) ?_)
 refine AWH.one (i := 11) (by kernel_rfl) rfl ?_
 refine cE ce_92 F (BdE p bd3 A3 c3) rfl rfl rfl (cSave p (N + 6) bd3 A3 c3 ok3 (by omega) d1 0 d3) ?_
 rintro t15 S15 ⟨d4, bd4, A4, c4, e4, ok4, rfl, rfl⟩
 refine AWL.nil (kpH (tcB i0 (appS (l := F) h0) rfl pinV (tcB i1 (appS (l := F) h1) rfl pinV (tcB i2 (appS (l := F) h2) rfl pinV (tcB i3 (appS (l := F) h3) rfl pinV (tc0))))) ?_)
 refine AWH.done (by kernel_rfl) ?_
 refine AW.region ?_
 refine Y1 (Yv.loadBox rfl ag_87 (i := i0) (appS (l := F) h0) eV rfl) ?_
 refine Y1 (Yv.loadBox rfl ag_3 (i := i2) (appS (l := F) h2) eV rfl) ?_
 refine cE ce_79 F (BdE p bd4 A4 c4) rfl rfl rfl (cIncr p (N + 7) bd4 A4 c4 ok4 (by omega) v2 8) ?_
 rintro t18 S18 ⟨d5, bd5, A5, c5, e5, ok5, rfl, rfl⟩
 refine nl ?_
 refine retN .nil ?_
 exact ⟨rfl, _, _, _, (bq e1).trans ((bq e2).trans ((bq e3).trans ((bq e4).trans (e5)))), ok5, rfl⟩

def mForward1 (v1 : Int) : BM Unit :=
 mRet (v1)
set_option maxHeartbeats 4000000 in
theorem cForward1 (p N : Nat) (bd : Bd) (A : Option Addr) (c : Nat) (ok : BdOk N bd) (hN : N ≤ 90000) (F : St) (i0 g0 : Nat) (h0 : F[i0]? = some (p87 g0 p)) (i1 g1 : Nat) (v1 : Int) (h1 : F[i1]? = some (Ent.box g1 3 [zi v1])) :
    ACalls Tryz.prog 112 [pv g0, pv g1] (F ++ BdE p bd A c) (BRF (mForward1 v1) bd p (N + 1) F) := by
 refine ACalls.intro Tryz.func112 rfl Tryz.ntmps112 nB rfl fun X w0 => ?_
 refine AW.region ?_
 refine Y1 (Yv.loadBox rfl ag_87 (i := i0) (appS (l := F) h0) eV rfl) ?_
 refine Y1 (Yv.loadBox rfl ag_3 (i := i1) (appS (l := F) h1) eV rfl) ?_
 refine cE ce_52 F (BdE p bd A c) rfl rfl rfl (cRet p N bd A c ok (by omega) v1) ?_
 rintro t4 S4 ⟨d1, bd1, A1, c1, e1, ok1, rfl, rfl⟩
 refine nl ?_
 refine retN .nil ?_
 exact ⟨rfl, _, _, _, e1, ok1, rfl⟩

def mForward2 (v2 : Int) : BM Unit :=
 mTail ((1 + 7)) [v2]
set_option maxHeartbeats 4000000 in
theorem cForward2 (p N : Nat) (bd : Bd) (A : Option Addr) (c : Nat) (ok : BdOk N bd) (hN : N ≤ 90000) (F : St) (i0 g0 : Nat) (h0 : F[i0]? = some (p87 g0 p)) (i1 g1 : Nat) (h1 : F[i1]? = some (Ent.box g1 3 [zi 1])) (i2 g2 : Nat) (v2 : Int) (h2 : F[i2]? = some (Ent.box g2 3 [zi v2])) :
    ACalls Tryz.prog 113 [pv g0, pv g1, pv g2] (F ++ BdE p bd A c) (BRF (mForward2 v2) bd p (N + 1) F) := by
 refine ACalls.intro Tryz.func113 rfl Tryz.ntmps113 nB rfl fun X w0 => ?_
 refine AW.region ?_
 refine Y1 (Yv.loadBox rfl ag_87 (i := i0) (appS (l := F) h0) eV rfl) ?_
 refine Y1 (Yv.loadBox rfl ag_3 (i := i1) (appS (l := F) h1) eV rfl) ?_
 refine Y1 (Yv.addN_i64 rfl eV eV (fun hg => by omega)) ?_
 refine Y1 (Yv.loadBox rfl ag_3 (i := i2) (appS (l := F) h2) eV rfl) ?_
 refine AWL.buildSlice1 rfl rfl (B rfl) rfl el_35 rfl (evsC (E rfl rfl) evs0) nB rfl rfl ?_
 refine cE ce_91 F (BdE p bd A c) rfl rfl rfl (cTail p N bd A c ok (by omega) ((1 + 7)) [v2]) ?_
 rintro t8 S8 ⟨d1, bd1, A1, c1, e1, ok1, rfl, rfl⟩
 refine nl ?_
 refine retN .nil ?_
 exact ⟨rfl, _, _, _, e1, ok1, rfl⟩

def mForward3 (v2 : Int) : BM Unit :=
 mTail ((1 + 7)) [v2]
set_option maxHeartbeats 4000000 in
theorem cForward3 (p N : Nat) (bd : Bd) (A : Option Addr) (c : Nat) (ok : BdOk N bd) (hN : N ≤ 90000) (F : St) (i0 g0 : Nat) (h0 : F[i0]? = some (p87 g0 p)) (i1 g1 : Nat) (h1 : F[i1]? = some (Ent.box g1 3 [zi 1])) (i2 g2 : Nat) (v2 : Int) (h2 : F[i2]? = some (Ent.box g2 3 [zi v2])) :
    ACalls Tryz.prog 114 [pv g0, pv g1, pv g2] (F ++ BdE p bd A c) (BRF (mForward3 v2) bd p (N + 1) F) := by
 refine ACalls.intro Tryz.func114 rfl Tryz.ntmps114 nB rfl fun X w0 => ?_
 refine AW.region ?_
 refine Y1 (Yv.loadBox rfl ag_87 (i := i0) (appS (l := F) h0) eV rfl) ?_
 refine Y1 (Yv.loadBox rfl ag_3 (i := i1) (appS (l := F) h1) eV rfl) ?_
 refine Y1 (Yv.addN_i64 rfl eV eV (fun hg => by omega)) ?_
 refine Y1 (Yv.loadBox rfl ag_3 (i := i2) (appS (l := F) h2) eV rfl) ?_
 refine AWL.buildSlice1 rfl rfl (B rfl) rfl el_35 rfl (evsC (E rfl rfl) evs0) nB rfl rfl ?_
 refine cE ce_91 F (BdE p bd A c) rfl rfl rfl (cTail p N bd A c ok (by omega) ((1 + 7)) [v2]) ?_
 rintro t8 S8 ⟨d1, bd1, A1, c1, e1, ok1, rfl, rfl⟩
 refine nl ?_
 refine retN .nil ?_
 exact ⟨rfl, _, _, _, e1, ok1, rfl⟩

def mScan1 (v0 v1 : Int) : BM (Int × Int) :=
 rtn ((v0), (v1))
set_option maxHeartbeats 4000000 in
theorem cScan1 (p N : Nat) (bd : Bd) (A : Option Addr) (c : Nat) (ok : BdOk N bd) (hN : N ≤ 90000) (F : St) (i0 g0 : Nat) (v0 : Int) (h0 : F[i0]? = some (Ent.box g0 3 [zi v0])) (i1 g1 : Nat) (v1 : Int) (h1 : F[i1]? = some (Ent.box g1 3 [zi v1])) :
    ACalls Tryz.prog 115 [pv g0, pv g1] (F ++ BdE p bd A c) (BR2 (mScan1 v0 v1) bd p N F) := by
 refine ACalls.intro Tryz.func115 rfl Tryz.ntmps115 nB rfl fun X w0 => ?_
 refine rs (Y1 (Yv.assign rfl eV) ?_)
 refine ya ?_
 refine AW.rseqH (HeldCs [(g0, 0, Value.int .i64 (v0)), (g1, 0, Value.int .i64 (v1))]) rfl (tells_cs (tcB i0 (appS (l := F) h0) rfl pinV (tcB i1 (appS (l := F) h1) rfl pinV (tc0)))) ?_
 refine T2 (i := 0) rfl (heldB 0 rfl ag_3 (E rfl rfl) rfl (fun _ _ => .v _)) ?_
 refine T2 (i := 1) rfl (heldB 1 rfl ag_3 (E rfl rfl) rfl (fun _ _ => .v _)) ?_
 refine AWH.one (i := 2) (by kernel_rfl) rfl ?_
 refine Y1 (Yv.assign rfl eV) ?_
 refine AWL.nil (kpH (tcB i0 (appS (l := F) h0) rfl pinV (tcB i1 (appS (l := F) h1) rfl pinV (tc0))) ?_)
 refine AWH.one (i := 3) (by kernel_rfl) rfl ?_
 refine Y1 (Yv.assign rfl eV) ?_
 refine AWL.nil (kpH (tcB i0 (appS (l := F) h0) rfl pinV (tcB i1 (appS (l := F) h1) rfl pinV (tc0))) ?_)
 refine AWH.done (by kernel_rfl) ?_
 refine AW.ret (retI (.tmp rfl (.tmp rfl .nil)) ?_)
 exact ⟨_, _, _, _, _, rfl, rfl, ok, rfl⟩

def mScan2 (v1 : Int) : BM Unit :=
 bnd (mGet (v1) (0)) fun d1 =>
 bnd (mCall ((1 + 8)) [d1]) fun d2 =>
 bnd (mSave (v1) (0) (d2)) fun _ =>
 mIncr (v1) (8)
set_option maxHeartbeats 4000000 in
theorem cScan2 (p N : Nat) (bd : Bd) (A : Option Addr) (c : Nat) (ok : BdOk N bd) (hN : N ≤ 90000) (F : St) (i0 g0 : Nat) (h0 : F[i0]? = some (p87 g0 p)) (i1 g1 : Nat) (v1 : Int) (h1 : F[i1]? = some (Ent.box g1 3 [zi v1])) (i2 g2 : Nat) (h2 : F[i2]? = some (Ent.box g2 3 [zi 1])) :
    ACalls Tryz.prog 116 [pv g0, pv g1, pv g2] (F ++ BdE p bd A c) (BRF (mScan2 v1) bd p (N + 8) F) := by
 refine ACalls.intro Tryz.func116 rfl Tryz.ntmps116 nB rfl fun X w0 => ?_
 refine AW.rseqH (HeldCs [(g0, 0, Value.pointer (some ⟨p, 0, none⟩)), (g1, 0, Value.int .i64 (v1)), (g2, 0, Value.int .i64 (1))]) rfl (tells_cs (tcB i0 (appS (l := F) h0) rfl pinV (tcB i1 (appS (l := F) h1) rfl pinV (tcB i2 (appS (l := F) h2) rfl pinV (tc0))))) ?_
 refine T2 (i := 0) rfl (heldB 0 rfl ag_87 (E rfl rfl) rfl (fun _ _ => .v _)) ?_
 refine T2 (i := 1) rfl (heldB 1 rfl ag_3 (E rfl rfl) rfl (fun _ _ => .v _)) ?_
 refine T2 (i := 2) rfl (heldB 0 rfl ag_87 (E rfl rfl) rfl (fun _ _ => .v _)) ?_
 refine T2 (i := 3) rfl (heldB 2 rfl ag_3 (E rfl rfl) rfl (fun _ _ => .v _)) ?_
 refine T2 (i := 4) rfl (heldAll (freeAddI rfl (E rfl rfl) (E rfl rfl) (by first | decide | omega))) ?_
 refine T2 (i := 5) rfl (heldB 0 rfl ag_87 (E rfl rfl) rfl (fun _ _ => .v _)) ?_
 refine AWH.one (i := 6) (by kernel_rfl) rfl ?_
 refine Y1 (Yv.loadBox rfl ag_3 (i := i1) (appS (l := F) h1) eV rfl) ?_
 refine AWL.nil (kpH (tcB i0 (appS (l := F) h0) rfl pinV (tcB i1 (appS (l := F) h1) rfl pinV (tcB i2 (appS (l := F) h2) rfl pinV (tc0)))) ?_)
 refine AWH.one (i := 7) (by kernel_rfl) rfl ?_
 refine cE ce_99 F (BdE p bd A c) rfl rfl rfl (cGet p N bd A c ok (by omega) v1 0) ?_
 rintro t10 S10 ⟨d1, bd1, A1, c1, e1, ok1, rfl, rfl⟩
 refine AWL.nil (kpH (tcB i0 (appS (l := F) h0) rfl pinV (tcB i1 (appS (l := F) h1) rfl pinV (tcB i2 (appS (l := F) h2) rfl pinV (tc0)))) ?_)
 refine AWH.one (i := 8) (by kernel_rfl) rfl ?_
 refine AWL.buildSlice1 rfl rfl (B rfl) rfl el_35 rfl (evsC (E rfl rfl) evs0) nB rfl rfl ?_
 refine AWL.nil (kpH (tcB i0 (appS (l := F) h0) rfl pinV (tcB i1 (appS (l := F) h1) rfl pinV (tcB i2 (appS (l := F) h2) rfl pinV (tc0)))) ?_)
 refine AWH.one (i := 9) (by kernel_rfl) rfl ?_
 refine cE ce_33 F (BdE p bd1 A1 c1) rfl rfl rfl (cCall p (N + 2) bd1 A1 c1 ok1 (by omega) ((1 + 8)) [d1]) ?_
 rintro t12 S12 ⟨d2, bd2, A2, c2, e2, ok2, rfl, rfl⟩
 refine AWL.nil (kpH (tcB i0 (appS (l := F) h0) rfl pinV (tcB i1 (appS (l := F) h1) rfl pinV (tcB i2 (appS (l := F) h2) rfl pinV (tc0)))) ?_)
 refine AWH.one (i := 10) (by kernel_rfl) rfl ?_
 refine cE ce_92 F (BdE p bd2 A2 c2) rfl rfl rfl (cSave p (N + 4) bd2 A2 c2 ok2 (by omega) v1 0 d2) ?_
 rintro t13 S13 ⟨d3, bd3, A3, c3, e3, ok3, rfl, rfl⟩
 refine AWL.nil (kpH (tcB i0 (appS (l := F) h0) rfl pinV (tcB i1 (appS (l := F) h1) rfl pinV (tcB i2 (appS (l := F) h2) rfl pinV (tc0)))) ?_)
 refine AWH.done (by kernel_rfl) ?_
 refine AW.region ?_
 refine Y1 (Yv.loadBox rfl ag_87 (i := i0) (appS (l := F) h0) eV rfl) ?_
 refine Y1 (Yv.loadBox rfl ag_3 (i := i1) (appS (l := F) h1) eV rfl) ?_
 refine cE ce_79 F (BdE p bd3 A3 c3) rfl rfl rfl (cIncr p (N + 5) bd3 A3 c3 ok3 (by omega) v1 8) ?_
 rintro t16 S16 ⟨d4, bd4, A4, c4, e4, ok4, rfl, rfl⟩
 refine nl ?_
 refine retN .nil ?_
 exact ⟨rfl, _, _, _, (bq e1).trans ((bq e2).trans ((bq e3).trans (e4))), ok4, rfl⟩

def mCollect1 (v0 : Int) : BM (Int × Int) :=
 bnd (mCell (0)) fun d1 =>
 rtn ((v0), (d1))
set_option maxHeartbeats 4000000 in
theorem cCollect1 (p N : Nat) (bd : Bd) (A : Option Addr) (c : Nat) (ok : BdOk N bd) (hN : N ≤ 90000) (F : St) (i0 g0 : Nat) (v0 : Int) (h0 : F[i0]? = some (Ent.box g0 3 [zi v0])) (i1 g1 : Nat) (h1 : F[i1]? = some (p87 g1 p)) :
    ACalls Tryz.prog 118 [pv g0, pv g1] (F ++ BdE p bd A c) (BR2 (mCollect1 v0) bd p (N + 4) F) := by
 refine ACalls.intro Tryz.func118 rfl Tryz.ntmps118 nB rfl fun X w0 => ?_
 refine rs (Y1 (Yv.assign rfl eV) ?_)
 refine ya ?_
 refine AW.rseqH (HeldCs [(g0, 0, Value.int .i64 (v0)), (g1, 0, Value.pointer (some ⟨p, 0, none⟩))]) rfl (tells_cs (tcB i0 (appS (l := F) h0) rfl pinV (tcB i1 (appS (l := F) h1) rfl pinV (tc0)))) ?_
 refine T2 (i := 0) rfl (heldB 0 rfl ag_3 (E rfl rfl) rfl (fun _ _ => .v _)) ?_
 refine AWH.one (i := 1) (by kernel_rfl) rfl ?_
 refine Y1 (Yv.loadBox rfl ag_87 (i := i1) (appS (l := F) h1) eV rfl) ?_
 refine AWL.nil (kpH (tcB i0 (appS (l := F) h0) rfl pinV (tcB i1 (appS (l := F) h1) rfl pinV (tc0))) ?_)
 refine AWH.one (i := 2) (by kernel_rfl) rfl ?_
 refine cE ce_87 F (BdE p bd A c) rfl rfl rfl (cCell p N bd A c ok (by omega) 0) ?_
 rintro t6 S6 ⟨d1, bd1, A1, c1, e1, ok1, rfl, rfl⟩
 refine AWL.nil (kpH (tcB i0 (appS (l := F) h0) rfl pinV (tcB i1 (appS (l := F) h1) rfl pinV (tc0))) ?_)
 refine AWH.one (i := 3) (by kernel_rfl) rfl ?_
 refine Y1 (Yv.assign rfl eV) ?_
 refine AWL.nil (kpH (tcB i0 (appS (l := F) h0) rfl pinV (tcB i1 (appS (l := F) h1) rfl pinV (tc0))) ?_)
 refine AWH.one (i := 4) (by kernel_rfl) rfl ?_
 refine Y1 (Yv.assign rfl eV) ?_
 refine AWL.nil (kpH (tcB i0 (appS (l := F) h0) rfl pinV (tcB i1 (appS (l := F) h1) rfl pinV (tc0))) ?_)
 refine AWH.done (by kernel_rfl) ?_
 refine AW.ret (retI (.tmp rfl (.tmp rfl .nil)) ?_)
 exact ⟨_, _, _, _, _, rfl, (bq e1), ok1, rfl⟩

def mCollect2 (v1 : Int) : BM Unit :=
 bnd (mGet (v1) (0)) fun d1 =>
 bnd (mCall ((1 + 8)) [d1]) fun d2 =>
 bnd (mSave (v1) (0) (d2)) fun _ =>
 mIncr (v1) (8)
set_option maxHeartbeats 4000000 in
theorem cCollect2 (p N : Nat) (bd : Bd) (A : Option Addr) (c : Nat) (ok : BdOk N bd) (hN : N ≤ 90000) (F : St) (i0 g0 : Nat) (h0 : F[i0]? = some (p87 g0 p)) (i1 g1 : Nat) (v1 : Int) (h1 : F[i1]? = some (Ent.box g1 3 [zi v1])) (i2 g2 : Nat) (h2 : F[i2]? = some (Ent.box g2 3 [zi 1])) :
    ACalls Tryz.prog 119 [pv g0, pv g1, pv g2] (F ++ BdE p bd A c) (BRF (mCollect2 v1) bd p (N + 8) F) := by
 refine ACalls.intro Tryz.func119 rfl Tryz.ntmps119 nB rfl fun X w0 => ?_
 refine AW.rseqH (HeldCs [(g0, 0, Value.pointer (some ⟨p, 0, none⟩)), (g1, 0, Value.int .i64 (v1)), (g2, 0, Value.int .i64 (1))]) rfl (tells_cs (tcB i0 (appS (l := F) h0) rfl pinV (tcB i1 (appS (l := F) h1) rfl pinV (tcB i2 (appS (l := F) h2) rfl pinV (tc0))))) ?_
 refine T2 (i := 0) rfl (heldB 0 rfl ag_87 (E rfl rfl) rfl (fun _ _ => .v _)) ?_
 refine T2 (i := 1) rfl (heldB 1 rfl ag_3 (E rfl rfl) rfl (fun _ _ => .v _)) ?_
 refine T2 (i := 2) rfl (heldB 0 rfl ag_87 (E rfl rfl) rfl (fun _ _ => .v _)) ?_
 refine T2 (i := 3) rfl (heldB 2 rfl ag_3 (E rfl rfl) rfl (fun _ _ => .v _)) ?_
 refine T2 (i := 4) rfl (heldAll (freeAddI rfl (E rfl rfl) (E rfl rfl) (by first | decide | omega))) ?_
 refine T2 (i := 5) rfl (heldB 0 rfl ag_87 (E rfl rfl) rfl (fun _ _ => .v _)) ?_
 refine AWH.one (i := 6) (by kernel_rfl) rfl ?_
 refine Y1 (Yv.loadBox rfl ag_3 (i := i1) (appS (l := F) h1) eV rfl) ?_
 refine AWL.nil (kpH (tcB i0 (appS (l := F) h0) rfl pinV (tcB i1 (appS (l := F) h1) rfl pinV (tcB i2 (appS (l := F) h2) rfl pinV (tc0)))) ?_)
 refine AWH.one (i := 7) (by kernel_rfl) rfl ?_
 refine cE ce_99 F (BdE p bd A c) rfl rfl rfl (cGet p N bd A c ok (by omega) v1 0) ?_
 rintro t10 S10 ⟨d1, bd1, A1, c1, e1, ok1, rfl, rfl⟩
 refine AWL.nil (kpH (tcB i0 (appS (l := F) h0) rfl pinV (tcB i1 (appS (l := F) h1) rfl pinV (tcB i2 (appS (l := F) h2) rfl pinV (tc0)))) ?_)
 refine AWH.one (i := 8) (by kernel_rfl) rfl ?_
 refine AWL.buildSlice1 rfl rfl (B rfl) rfl el_35 rfl (evsC (E rfl rfl) evs0) nB rfl rfl ?_
 refine AWL.nil (kpH (tcB i0 (appS (l := F) h0) rfl pinV (tcB i1 (appS (l := F) h1) rfl pinV (tcB i2 (appS (l := F) h2) rfl pinV (tc0)))) ?_)
 refine AWH.one (i := 9) (by kernel_rfl) rfl ?_
 refine cE ce_33 F (BdE p bd1 A1 c1) rfl rfl rfl (cCall p (N + 2) bd1 A1 c1 ok1 (by omega) ((1 + 8)) [d1]) ?_
 rintro t12 S12 ⟨d2, bd2, A2, c2, e2, ok2, rfl, rfl⟩
 refine AWL.nil (kpH (tcB i0 (appS (l := F) h0) rfl pinV (tcB i1 (appS (l := F) h1) rfl pinV (tcB i2 (appS (l := F) h2) rfl pinV (tc0)))) ?_)
 refine AWH.one (i := 10) (by kernel_rfl) rfl ?_
 refine cE ce_92 F (BdE p bd2 A2 c2) rfl rfl rfl (cSave p (N + 4) bd2 A2 c2 ok2 (by omega) v1 0 d2) ?_
 rintro t13 S13 ⟨d3, bd3, A3, c3, e3, ok3, rfl, rfl⟩
 refine AWL.nil (kpH (tcB i0 (appS (l := F) h0) rfl pinV (tcB i1 (appS (l := F) h1) rfl pinV (tcB i2 (appS (l := F) h2) rfl pinV (tc0)))) ?_)
 refine AWH.done (by kernel_rfl) ?_
 refine AW.region ?_
 refine Y1 (Yv.loadBox rfl ag_87 (i := i0) (appS (l := F) h0) eV rfl) ?_
 refine Y1 (Yv.loadBox rfl ag_3 (i := i1) (appS (l := F) h1) eV rfl) ?_
 refine cE ce_79 F (BdE p bd3 A3 c3) rfl rfl rfl (cIncr p (N + 5) bd3 A3 c3 ok3 (by omega) v1 8) ?_
 rintro t16 S16 ⟨d4, bd4, A4, c4, e4, ok4, rfl, rfl⟩
 refine nl ?_
 refine retN .nil ?_
 exact ⟨rfl, _, _, _, (bq e1).trans ((bq e2).trans ((bq e3).trans (e4))), ok4, rfl⟩

def mCollect3 (v0 : Int) : BM (Int × Int) :=
 bnd (mCell (320)) fun d1 =>
 rtn ((v0), (d1))
set_option maxHeartbeats 4000000 in
theorem cCollect3 (p N : Nat) (bd : Bd) (A : Option Addr) (c : Nat) (ok : BdOk N bd) (hN : N ≤ 90000) (F : St) (i0 g0 : Nat) (v0 : Int) (h0 : F[i0]? = some (Ent.box g0 3 [zi v0])) (i1 g1 : Nat) (h1 : F[i1]? = some (p87 g1 p)) :
    ACalls Tryz.prog 120 [pv g0, pv g1] (F ++ BdE p bd A c) (BR2 (mCollect3 v0) bd p (N + 4) F) := by
 refine ACalls.intro Tryz.func120 rfl Tryz.ntmps120 nB rfl fun X w0 => ?_
 refine rs (Y1 (Yv.assign rfl eV) ?_)
 refine ya ?_
 refine AW.rseqH (HeldCs [(g0, 0, Value.int .i64 (v0)), (g1, 0, Value.pointer (some ⟨p, 0, none⟩))]) rfl (tells_cs (tcB i0 (appS (l := F) h0) rfl pinV (tcB i1 (appS (l := F) h1) rfl pinV (tc0)))) ?_
 refine T2 (i := 0) rfl (heldB 0 rfl ag_3 (E rfl rfl) rfl (fun _ _ => .v _)) ?_
 refine AWH.one (i := 1) (by kernel_rfl) rfl ?_
 refine Y1 (Yv.loadBox rfl ag_87 (i := i1) (appS (l := F) h1) eV rfl) ?_
 refine AWL.nil (kpH (tcB i0 (appS (l := F) h0) rfl pinV (tcB i1 (appS (l := F) h1) rfl pinV (tc0))) ?_)
 refine AWH.one (i := 2) (by kernel_rfl) rfl ?_
 refine cE ce_87 F (BdE p bd A c) rfl rfl rfl (cCell p N bd A c ok (by omega) 320) ?_
 rintro t6 S6 ⟨d1, bd1, A1, c1, e1, ok1, rfl, rfl⟩
 refine AWL.nil (kpH (tcB i0 (appS (l := F) h0) rfl pinV (tcB i1 (appS (l := F) h1) rfl pinV (tc0))) ?_)
 refine AWH.one (i := 3) (by kernel_rfl) rfl ?_
 refine Y1 (Yv.assign rfl eV) ?_
 refine AWL.nil (kpH (tcB i0 (appS (l := F) h0) rfl pinV (tcB i1 (appS (l := F) h1) rfl pinV (tc0))) ?_)
 refine AWH.one (i := 4) (by kernel_rfl) rfl ?_
 refine Y1 (Yv.assign rfl eV) ?_
 refine AWL.nil (kpH (tcB i0 (appS (l := F) h0) rfl pinV (tcB i1 (appS (l := F) h1) rfl pinV (tc0))) ?_)
 refine AWH.done (by kernel_rfl) ?_
 refine AW.ret (retI (.tmp rfl (.tmp rfl .nil)) ?_)
 exact ⟨_, _, _, _, _, rfl, (bq e1), ok1, rfl⟩

def mCollect4 (v1 : Int) : BM Unit :=
 bnd (mGet (v1) (0)) fun d1 =>
 bnd (mGet (d1) (0)) fun d2 =>
 bnd (mAnd (d2) ((-33))) fun d3 =>
 bnd (mSave (d1) (0) (d3)) fun _ =>
 bnd (mCall ((1 + 9)) [d1]) fun d5 =>
 mIncr (v1) (8)
set_option maxHeartbeats 4000000 in
theorem cCollect4 (p N : Nat) (bd : Bd) (A : Option Addr) (c : Nat) (ok : BdOk N bd) (hN : N ≤ 90000) (F : St) (i0 g0 : Nat) (h0 : F[i0]? = some (p87 g0 p)) (i1 g1 : Nat) (v1 : Int) (h1 : F[i1]? = some (Ent.box g1 3 [zi v1])) (i2 g2 : Nat) (h2 : F[i2]? = some (Ent.box g2 3 [zi 1])) :
    ACalls Tryz.prog 121 [pv g0, pv g1, pv g2] (F ++ BdE p bd A c) (BRF (mCollect4 v1) bd p (N + 14) F) := by
 refine ACalls.intro Tryz.func121 rfl Tryz.ntmps121 nB rfl fun X w0 => ?_
 refine rs (Y1 (Yv.loadBox rfl ag_87 (i := i0) (appS (l := F) h0) eV rfl) ?_)
 refine Y1 (Yv.loadBox rfl ag_3 (i := i1) (appS (l := F) h1) eV rfl) ?_
 refine cE ce_99 F (BdE p bd A c) rfl rfl rfl (cGet p N bd A c ok (by omega) v1 0) ?_
 rintro t6 S6 ⟨d1, bd1, A1, c1, e1, ok1, rfl, rfl⟩
 refine ya ?_
 refine AW.rseqH (HeldCs [(g0, 0, Value.pointer (some ⟨p, 0, none⟩)), (g1, 0, Value.int .i64 (v1)), (g2, 0, Value.int .i64 (1))]) rfl (tells_cs (tcB i0 (appS (l := F) h0) rfl pinV (tcB i1 (appS (l := F) h1) rfl pinV (tcB i2 (appS (l := F) h2) rfl pinV (tc0))))) ?_
 refine T2 (i := 0) rfl (heldB 0 rfl ag_87 (E rfl rfl) rfl (fun _ _ => .v _)) ?_
 refine T2 (i := 1) rfl (heldAll (freeMove rfl (E rfl rfl))) ?_
 refine T2 (i := 2) rfl (heldB 0 rfl ag_87 (E rfl rfl) rfl (fun _ _ => .v _)) ?_
 refine T2 (i := 3) rfl (heldB 0 rfl ag_87 (E rfl rfl) rfl (fun _ _ => .v _)) ?_
 refine AWH.one (i := 4) (by kernel_rfl) rfl ?_
 refine ym ?_
 refine AWL.nil (kpH (tcB i0 (appS (l := F) h0) rfl pinV (tcB i1 (appS (l := F) h1) rfl pinV (tcB i2 (appS (l := F) h2) rfl pinV (tc0)))) ?_)
 refine AWH.one (i := 5) (by kernel_rfl) rfl ?_
 refine cE ce_99 F (BdE p bd1 A1 c1) rfl rfl rfl (cGet p (N + 2) bd1 A1 c1 ok1 (by omega) d1 0) ?_
 rintro t12 S12 ⟨d2, bd2, A2, c2, e2, ok2, rfl, rfl⟩
 refine AWL.nil (kpH (tcB i0 (appS (l := F) h0) rfl pinV (tcB i1 (appS (l := F) h1) rfl pinV (tcB i2 (appS (l := F) h2) rfl pinV (tc0)))) ?_)
 refine AWH.one (i := 6) (by kernel_rfl) rfl ?_
 refine cE ce_100 F (BdE p bd2 A2 c2) rfl rfl rfl (cAnd p (N + 4) bd2 A2 c2 ok2 (by omega) d2 ((-33))) ?_
 rintro t13 S13 ⟨d3, bd3, A3, c3, e3, ok3, rfl, rfl⟩
 refine AWL.nil (kpH (tcB i0 (appS (l := F) h0) rfl pinV (tcB i1 (appS (l := F) h1) rfl pinV (tcB i2 (appS (l := F) h2) rfl pinV (tc0)))) ?_)
 refine AWH.one (i := 7) (by kernel_rfl) rfl ?_
 refine cE ce_92 F (BdE p bd3 A3 c3) rfl rfl rfl (cSave p (N + 8) bd3 A3 c3 ok3 (by omega) d1 0 d3) ?_
 rintro t14 S14 ⟨d4, bd4, A4, c4, e4, ok4, rfl, rfl⟩
 refine AWL.nil (kpH (tcB i0 (appS (l := F) h0) rfl pinV (tcB i1 (appS (l := F) h1) rfl pinV (tcB i2 (appS (l := F) h2) rfl pinV (tc0)))) ?_)
 refine AWH.done (by kernel_rfl) ?_
 refine rs (Y1 (Yv.loadBox rfl ag_87 (i := i0) (appS (l := F) h0) eV rfl) ?_)
 refine Y1 (Yv.loadBox rfl ag_3 (i := i2) (appS (l := F) h2) eV rfl) ?_
 refine Y1 (Yv.addN_i64 rfl eV eV (fun hg => by omega)) ?_
 refine ym ?_
 refine AWL.buildSlice1 rfl rfl (B rfl) rfl el_35 rfl (evsC (E rfl rfl) evs0) nB rfl rfl ?_
 refine cE ce_33 F (BdE p bd4 A4 c4) rfl rfl rfl (cCall p (N + 9) bd4 A4 c4 ok4 (by omega) ((1 + 9)) [d1]) ?_
 rintro t20 S20 ⟨d5, bd5, A5, c5, e5, ok5, rfl, rfl⟩
 refine nl ?_
 refine AW.region ?_
 refine Y1 (Yv.loadBox rfl ag_87 (i := i0) (appS (l := F) h0) eV rfl) ?_
 refine Y1 (Yv.loadBox rfl ag_3 (i := i1) (appS (l := F) h1) eV rfl) ?_
 refine cE ce_79 F (BdE p bd5 A5 c5) rfl rfl rfl (cIncr p (N + 11) bd5 A5 c5 ok5 (by omega) v1 8) ?_
 rintro t23 S23 ⟨d6, bd6, A6, c6, e6, ok6, rfl, rfl⟩
 refine nl ?_
 refine retN .nil ?_
 exact ⟨rfl, _, _, _, (bq e1).trans ((bq e2).trans ((bq e3).trans ((bq e4).trans ((bq e5).trans (e6))))), ok6, rfl⟩

def mCollect5 (v0 : Int) : BM (Int × Int) :=
 bnd (mCell (328)) fun d1 =>
 rtn ((v0), (d1))
set_option maxHeartbeats 4000000 in
theorem cCollect5 (p N : Nat) (bd : Bd) (A : Option Addr) (c : Nat) (ok : BdOk N bd) (hN : N ≤ 90000) (F : St) (i0 g0 : Nat) (v0 : Int) (h0 : F[i0]? = some (Ent.box g0 3 [zi v0])) (i1 g1 : Nat) (h1 : F[i1]? = some (p87 g1 p)) :
    ACalls Tryz.prog 122 [pv g0, pv g1] (F ++ BdE p bd A c) (BR2 (mCollect5 v0) bd p (N + 4) F) := by
 refine ACalls.intro Tryz.func122 rfl Tryz.ntmps122 nB rfl fun X w0 => ?_
 refine rs (Y1 (Yv.assign rfl eV) ?_)
 refine ya ?_
 refine AW.rseqH (HeldCs [(g0, 0, Value.int .i64 (v0)), (g1, 0, Value.pointer (some ⟨p, 0, none⟩))]) rfl (tells_cs (tcB i0 (appS (l := F) h0) rfl pinV (tcB i1 (appS (l := F) h1) rfl pinV (tc0)))) ?_
 refine T2 (i := 0) rfl (heldB 0 rfl ag_3 (E rfl rfl) rfl (fun _ _ => .v _)) ?_
 refine AWH.one (i := 1) (by kernel_rfl) rfl ?_
 refine Y1 (Yv.loadBox rfl ag_87 (i := i1) (appS (l := F) h1) eV rfl) ?_
 refine AWL.nil (kpH (tcB i0 (appS (l := F) h0) rfl pinV (tcB i1 (appS (l := F) h1) rfl pinV (tc0))) ?_)
 refine AWH.one (i := 2) (by kernel_rfl) rfl ?_
 refine cE ce_87 F (BdE p bd A c) rfl rfl rfl (cCell p N bd A c ok (by omega) 328) ?_
 rintro t6 S6 ⟨d1, bd1, A1, c1, e1, ok1, rfl, rfl⟩
 refine AWL.nil (kpH (tcB i0 (appS (l := F) h0) rfl pinV (tcB i1 (appS (l := F) h1) rfl pinV (tc0))) ?_)
 refine AWH.one (i := 3) (by kernel_rfl) rfl ?_
 refine Y1 (Yv.assign rfl eV) ?_
 refine AWL.nil (kpH (tcB i0 (appS (l := F) h0) rfl pinV (tcB i1 (appS (l := F) h1) rfl pinV (tc0))) ?_)
 refine AWH.one (i := 4) (by kernel_rfl) rfl ?_
 refine Y1 (Yv.assign rfl eV) ?_
 refine AWL.nil (kpH (tcB i0 (appS (l := F) h0) rfl pinV (tcB i1 (appS (l := F) h1) rfl pinV (tc0))) ?_)
 refine AWH.done (by kernel_rfl) ?_
 refine AW.ret (retI (.tmp rfl (.tmp rfl .nil)) ?_)
 exact ⟨_, _, _, _, _, rfl, (bq e1), ok1, rfl⟩

def mCollect6 (v1 : Int) : BM Unit :=
 bnd (mCall ((1 + 9)) [v1]) fun d1 =>
 mSet (v1) (d1)
set_option maxHeartbeats 4000000 in
theorem cCollect6 (p N : Nat) (bd : Bd) (A : Option Addr) (c : Nat) (ok : BdOk N bd) (hN : N ≤ 90000) (F : St) (i0 g0 : Nat) (h0 : F[i0]? = some (p87 g0 p)) (i1 g1 : Nat) (v1 : Int) (h1 : F[i1]? = some (Ent.box g1 3 [zi v1])) (i2 g2 : Nat) (h2 : F[i2]? = some (Ent.box g2 3 [zi 1])) :
    ACalls Tryz.prog 123 [pv g0, pv g1, pv g2] (F ++ BdE p bd A c) (BRF (mCollect6 v1) bd p (N + 3) F) := by
 refine ACalls.intro Tryz.func123 rfl Tryz.ntmps123 nB rfl fun X w0 => ?_
 refine AW.regionH (HeldCs [(g0, 0, Value.pointer (some ⟨p, 0, none⟩)), (g1, 0, Value.int .i64 (v1)), (g2, 0, Value.int .i64 (1))]) rfl (tells_cs (tcB i0 (appS (l := F) h0) rfl pinV (tcB i1 (appS (l := F) h1) rfl pinV (tcB i2 (appS (l := F) h2) rfl pinV (tc0))))) ?_
 refine T2 (i := 0) rfl (heldB 0 rfl ag_87 (E rfl rfl) rfl (fun _ _ => .v _)) ?_
 refine T2 (i := 1) rfl (heldB 1 rfl ag_3 (E rfl rfl) rfl (fun _ _ => .v _)) ?_
 refine T2 (i := 2) rfl (heldB 0 rfl ag_87 (E rfl rfl) rfl (fun _ _ => .v _)) ?_
 refine T2 (i := 3) rfl (heldB 2 rfl ag_3 (E rfl rfl) rfl (fun _ _ => .v _)) ?_
 refine T2 (i := 4) rfl (heldAll (freeAddI rfl (E rfl rfl) (E rfl rfl) (by first | decide | omega))) ?_
 refine AWH.one (i := 5) (by kernel_rfl) rfl ?_
 refine Y1 (Yv.loadBox rfl ag_3 (i := i1) (appS (l := F) h1) eV rfl) ?_
 refine AWL.nil (kpH (tcB i0 (appS (l := F) h0) rfl pinV (tcB i1 (appS (l := F) h1) rfl pinV (tcB i2 (appS (l := F) h2) rfl pinV (tc0)))) ?_)
 refine AWH.one (i := 6) (by kernel_rfl) rfl ?_
 refine AWL.buildSlice1 rfl rfl (B rfl) rfl el_35 rfl (evsC (E rfl rfl) evs0) nB rfl rfl ?_
 refine AWL.nil (kpH (tcB i0 (appS (l := F) h0) rfl pinV (tcB i1 (appS (l := F) h1) rfl pinV (tcB i2 (appS (l := F) h2) rfl pinV (tc0)))) ?_)
 refine AWH.one (i := 7) (by kernel_rfl) rfl ?_
 refine cE ce_33 F (BdE p bd A c) rfl rfl rfl (cCall p N bd A c ok (by omega) ((1 + 9)) [v1]) ?_
 rintro t10 S10 ⟨d1, bd1, A1, c1, e1, ok1, rfl, rfl⟩
 refine AWL.nil (kpH (tcB i0 (appS (l := F) h0) rfl pinV (tcB i1 (appS (l := F) h1) rfl pinV (tcB i2 (appS (l := F) h2) rfl pinV (tc0)))) ?_)
 refine AWH.one (i := 8) (by kernel_rfl) rfl ?_
 refine cE ce_124 F (BdE p bd1 A1 c1) rfl rfl rfl (cSet p (N + 2) bd1 A1 c1 ok1 (by omega) v1 d1) ?_
 rintro t11 S11 ⟨d2, bd2, A2, c2, e2, ok2, rfl, rfl⟩
 refine AWL.nil (kpH (tcB i0 (appS (l := F) h0) rfl pinV (tcB i1 (appS (l := F) h1) rfl pinV (tcB i2 (appS (l := F) h2) rfl pinV (tc0)))) ?_)
 refine AWH.done (by kernel_rfl) ?_
 refine retN .nil ?_
 exact ⟨rfl, _, _, _, (bq e1).trans (e2), ok2, rfl⟩

end Go.Proofs.YtpgbpdnmjeoeoaaGreat.B

namespace Go.Proofs.YtpgbpdnmjeoeoaaGreat.B
open Go Go.RowKit

def mAllocFn : BM Unit :=
 bnd (labelM) fun d1 =>
 bnd (labelM) fun d2 =>
 bnd (mCell (272)) fun d3 =>
 bnd (mCell (256)) fun d4 =>
 bnd (mSub (d3) (d4)) fun d5 =>
 bnd (mIf (5) (d5) (0) (d1)) fun _ =>
 bnd (labelM) fun d7 =>
 bnd (mAt (d2)) fun _ =>
 bnd (mCell (264)) fun d9 =>
 bnd (mAdd (d9) (0)) fun d10 =>
 bnd (mCell (272)) fun d11 =>
 bnd (mIf (5) (d11) (d10) (d7)) fun _ =>
 bnd (mSetCell (264) (d10)) fun _ =>
 bnd (mRet (d9)) fun _ =>
 bnd (mAt (d7)) fun _ =>
 bnd (mCall ((1 + 2)) []) fun d16 =>
 bnd (mJump (d2)) fun _ =>
 bnd (mAt (d1)) fun _ =>
 bnd (labelM) fun d19 =>
 bnd (mCell (296)) fun d20 =>
 bnd (mCell (288)) fun d21 =>
 bnd (mSub (d20) (d21)) fun d22 =>
 bnd (mIf (6) (0) (d22) (d19)) fun _ =>
 bnd (mCall ((1 + 3)) []) fun d24 =>
 bnd (mCell (296)) fun d25 =>
 bnd (mCell (288)) fun d26 =>
 bnd (mSub (d25) (d26)) fun d27 =>
 bnd (mThen (5) (d27) (0) (mAlloc1 )) fun _ =>
 bnd (mAt (d19)) fun _ =>
 bnd (mCell (288)) fun d30 =>
 bnd (mAdd (d30) (0)) fun d31 =>
 bnd (mSetCell (288) (d31)) fun _ =>
 bnd (mCell (320)) fun d33 =>
 bnd (mSave (d33) (0) (d30)) fun _ =>
 bnd (mAddC (d33) (8)) fun d35 =>
 bnd (mSetCell (320) (d35)) fun _ =>
 bnd (mC (37)) fun d37 =>
 bnd (mSave (d30) (0) (d37)) fun _ =>
 mRet (d30)
def fAllocFn : Fn := fnB (mAllocFn (bd0 [103, 99, 46, 97, 108, 108, 111, 99] 1)).2
set_option maxHeartbeats 16000000 in
theorem cAllocFn_  :
    ACalls Tryz.prog 55 [zi 1] [] (fun t S => t = .agg (fnCells (fAllocFn))) := by
 refine ACalls.intro Tryz.func55 rfl Tryz.ntmps55 nB rfl fun X w0 => ?_
 refine rs ?_
 refine AWL.boxOp rfl rfl (B rfl) rfl (E rfl rfl) rfl (fun b1 => ?_)
 refine AWL.perm (List.perm_append_singleton _ _).symm ?_
 refine AWL.allocOp rfl rfl (B rfl) rfl zc_93 (fun b2 => ?_)
 refine AWL.perm (List.perm_append_singleton _ _).symm (nl ?_)
 refine rs ?_
 refine cE ce_32 [z93 b2, i3 b1 1] [] rfl rfl rfl (cNew [103, 99, 46, 97, 108, 108, 111, 99] 1) ?_
 rintro t13 S13 ⟨p, rfl, rfl⟩
 have ok0 : BdOk 1 (bd0 [103, 99, 46, 97, 108, 108, 111, 99] 1) := ⟨by decide, by decide, by decide, by decide, by decide, by decide, by decide⟩
 refine AWL.allocOp rfl rfl (B rfl) rfl zc_87 (fun b3 => ?_)
 refine AWL.perm (List.perm_append_singleton _ _).symm ?_
 refine AWL.storeBox (i := 0) rfl rfl rfl ag_87 rfl (E rfl rfl) (E rfl rfl) rfl rfl nB (nl ?_)
 refine ra ?_
 refine AW.rseqH (HeldCs [(b3, 0, Value.pointer (some ⟨p, 0, none⟩)), (b1, 0, Value.int .i64 (1))]) rfl (tells_cs (tcB 0 rfl rfl pinV (tcB 2 rfl rfl pinV (tc0)))) ?_
 refine T2 (i := 0) rfl (heldB 0 rfl ag_87 (E rfl rfl) rfl (fun _ _ => .v _)) ?_
 refine T2 (i := 2) rfl (heldB 0 rfl ag_87 (E rfl rfl) rfl (fun _ _ => .v _)) ?_
 refine AWH.one (i := 1) (by kernel_rfl) rfl ?_
 refine cE ce_84 [p87 b3 p, z93 b2, i3 b1 1] (BdE p (bd0 [103, 99, 46, 97, 108, 108, 111, 99] 1) none 0) rfl rfl rfl (cLabel p 1 (bd0 [103, 99, 46, 97, 108, 108, 111, 99] 1) none 0 ok0 (by omega) ) ?_
 rintro t15 S15 ⟨d1, bd1, A1, c1, e1, ok1, rfl, rfl⟩
 refine AWL.nil (kpH (tcB 0 rfl rfl pinV (tcB 2 rfl rfl pinV (tc0))) ?_)
 refine AWH.one (i := 3) (by kernel_rfl) rfl ?_
 refine cE ce_84 [p87 b3 p, z93 b2, i3 b1 1] (BdE p bd1 A1 c1) rfl rfl rfl (cLabel p (1 + 1) bd1 A1 c1 ok1 (by omega) ) ?_
 rintro t17 S17 ⟨d2, bd2, A2, c2, e2, ok2, rfl, rfl⟩
 refine AWL.nil (kpH (tcB 0 rfl rfl pinV (tcB 2 rfl rfl pinV (tc0))) ?_)
 refine AWH.one (i := 4) (by kernel_rfl) rfl ?_
 refine Y1 (Yv.assign rfl eV) ?_
 refine AWL.nil (kpH (tcB 0 rfl rfl pinV (tcB 2 rfl rfl pinV (tc0))) ?_)
 refine AWH.one (i := 5) (by kernel_rfl) rfl ?_
 refine Y1 (Yv.assign rfl eV) ?_
 refine AWL.nil (kpH (tcB 0 rfl rfl pinV (tcB 2 rfl rfl pinV (tc0))) ?_)
 refine AWH.done (by kernel_rfl) ?_
 refine AW.rseqH (HeldCs [(b3, 0, Value.pointer (some ⟨p, 0, none⟩)), (b1, 0, Value.int .i64 (1))]) rfl (tells_cs (tcB 0 rfl rfl pinV (tcB 2 rfl rfl pinV (tc0)))) ?_
 refine T2 (i := 0) rfl (heldB 0 rfl ag_87 (E rfl rfl) rfl (fun _ _ => .v _)) ?_
 refine T2 (i := 1) rfl (heldB 0 rfl ag_87 (E rfl rfl) rfl (fun _ _ => .v _)) ?_
 refine T2 (i := 2) rfl (heldB 0 rfl ag_87 (E rfl rfl) rfl (fun _ _ => .v _)) ?_
 refine T2 (i := 4) rfl (heldB 0 rfl ag_87 (E rfl rfl) rfl (fun _ _ => .v _)) ?_
 refine T2 (i := 7) rfl (heldAll (freeMove rfl (E rfl rfl))) ?_
 refine T2 (i := 8) rfl (heldAll (freeMove rfl (E rfl rfl))) ?_
 refine AWH.one (i := 3) (by kernel_rfl) rfl ?_
 refine cE ce_87 [p87 b3 p, z93 b2, i3 b1 1] (BdE p bd2 A2 c2) rfl rfl rfl (cCell p (1 + 2) bd2 A2 c2 ok2 (by omega) 272) ?_
 rintro t21 S21 ⟨d3, bd3, A3, c3, e3, ok3, rfl, rfl⟩
 refine AWL.nil (kpH (tcB 0 rfl rfl pinV (tcB 2 rfl rfl pinV (tc0))) ?_)
 refine AWH.one (i := 5) (by kernel_rfl) rfl ?_
 refine cE ce_87 [p87 b3 p, z93 b2, i3 b1 1] (BdE p bd3 A3 c3) rfl rfl rfl (cCell p (1 + 6) bd3 A3 c3 ok3 (by omega) 256) ?_
 rintro t23 S23 ⟨d4, bd4, A4, c4, e4, ok4, rfl, rfl⟩
 refine AWL.nil (kpH (tcB 0 rfl rfl pinV (tcB 2 rfl rfl pinV (tc0))) ?_)
 refine AWH.one (i := 6) (by kernel_rfl) rfl ?_
 refine cE ce_86 [p87 b3 p, z93 b2, i3 b1 1] (BdE p bd4 A4 c4) rfl rfl rfl (cSub p (1 + 10) bd4 A4 c4 ok4 (by omega) d3 d4) ?_
 rintro t24 S24 ⟨d5, bd5, A5, c5, e5, ok5, rfl, rfl⟩
 refine AWL.nil (kpH (tcB 0 rfl rfl pinV (tcB 2 rfl rfl pinV (tc0))) ?_)
 refine AWH.one (i := 9) (by kernel_rfl) rfl ?_
 refine cE ce_85 [p87 b3 p, z93 b2, i3 b1 1] (BdE p bd5 A5 c5) rfl rfl rfl (cIf p (1 + 12) bd5 A5 c5 ok5 (by omega) 5 d5 0 d1) ?_
 rintro t27 S27 ⟨d6, bd6, A6, c6, e6, ok6, rfl, rfl⟩
 refine AWL.nil (kpH (tcB 0 rfl rfl pinV (tcB 2 rfl rfl pinV (tc0))) ?_)
 refine AWH.done (by kernel_rfl) ?_
 refine rs (yl ag_87 0 ?_)
 refine cE ce_84 [p87 b3 p, z93 b2, i3 b1 1] (BdE p bd6 A6 c6) rfl rfl rfl (cLabel p (1 + 13) bd6 A6 c6 ok6 (by omega) ) ?_
 rintro t29 S29 ⟨d7, bd7, A7, c7, e7, ok7, rfl, rfl⟩
 refine ya ?_
 refine rs (yl ag_87 0 ?_)
 refine ym ?_
 refine cE ce_88 [p87 b3 p, z93 b2, i3 b1 1] (BdE p bd7 A7 c7) rfl rfl rfl (cAt p (1 + 14) bd7 A7 c7 ok7 (by omega) d2) ?_
 rintro t32 S32 ⟨d8, bd8, A8, c8, e8, ok8, rfl, rfl⟩
 refine nl ?_
 refine rs (yl ag_87 0 ?_)
 refine cE ce_87 [p87 b3 p, z93 b2, i3 b1 1] (BdE p bd8 A8 c8) rfl rfl rfl (cCell p (1 + 15) bd8 A8 c8 ok8 (by omega) 264) ?_
 rintro t34 S34 ⟨d9, bd9, A9, c9, e9, ok9, rfl, rfl⟩
 refine ya ?_
 refine rs (yl ag_87 0 ?_)
 refine ym ?_
 refine ym ?_
 refine cE ce_83 [p87 b3 p, z93 b2, i3 b1 1] (BdE p bd9 A9 c9) rfl rfl rfl (cAdd p (1 + 19) bd9 A9 c9 ok9 (by omega) d9 0) ?_
 rintro t38 S38 ⟨d10, bd10, A10, c10, e10, ok10, rfl, rfl⟩
 refine ya ?_
 refine AW.rseqH (HeldCs [(b3, 0, Value.pointer (some ⟨p, 0, none⟩)), (b1, 0, Value.int .i64 (1))]) rfl (tells_cs (tcB 0 rfl rfl pinV (tcB 2 rfl rfl pinV (tc0)))) ?_
 refine T2 (i := 0) rfl (heldB 0 rfl ag_87 (E rfl rfl) rfl (fun _ _ => .v _)) ?_
 refine T2 (i := 1) rfl (heldB 0 rfl ag_87 (E rfl rfl) rfl (fun _ _ => .v _)) ?_
 refine T2 (i := 3) rfl (heldAll (freeMove rfl (E rfl rfl))) ?_
 refine T2 (i := 4) rfl (heldAll (freeMove rfl (E rfl rfl))) ?_
 refine AWH.one (i := 2) (by kernel_rfl) rfl ?_
 refine cE ce_87 [p87 b3 p, z93 b2, i3 b1 1] (BdE p bd10 A10 c10) rfl rfl rfl (cCell p (1 + 21) bd10 A10 c10 ok10 (by omega) 272) ?_
 rintro t41 S41 ⟨d11, bd11, A11, c11, e11, ok11, rfl, rfl⟩
 refine AWL.nil (kpH (tcB 0 rfl rfl pinV (tcB 2 rfl rfl pinV (tc0))) ?_)
 refine AWH.one (i := 5) (by kernel_rfl) rfl ?_
 refine cE ce_85 [p87 b3 p, z93 b2, i3 b1 1] (BdE p bd11 A11 c11) rfl rfl rfl (cIf p (1 + 25) bd11 A11 c11 ok11 (by omega) 5 d11 d10 d7) ?_
 rintro t44 S44 ⟨d12, bd12, A12, c12, e12, ok12, rfl, rfl⟩
 refine AWL.nil (kpH (tcB 0 rfl rfl pinV (tcB 2 rfl rfl pinV (tc0))) ?_)
 refine AWH.done (by kernel_rfl) ?_
 refine rs (yl ag_87 0 ?_)
 refine ym ?_
 refine cE ce_76 [p87 b3 p, z93 b2, i3 b1 1] (BdE p bd12 A12 c12) rfl rfl rfl (cSetCell p (1 + 26) bd12 A12 c12 ok12 (by omega) 264 d10) ?_
 rintro t47 S47 ⟨d13, bd13, A13, c13, e13, ok13, rfl, rfl⟩
 refine nl ?_
 refine rs (yl ag_87 0 ?_)
 refine ym ?_
 refine cE ce_52 [p87 b3 p, z93 b2, i3 b1 1] (BdE p bd13 A13 c13) rfl rfl rfl (cRet p (1 + 29) bd13 A13 c13 ok13 (by omega) d9) ?_
 rintro t50 S50 ⟨d14, bd14, A14, c14, e14, ok14, rfl, rfl⟩
 refine nl ?_
 refine rs (yl ag_87 0 ?_)
 refine ym ?_
 refine cE ce_88 [p87 b3 p, z93 b2, i3 b1 1] (BdE p bd14 A14 c14) rfl rfl rfl (cAt p (1 + 30) bd14 A14 c14 ok14 (by omega) d7) ?_
 rintro t53 S53 ⟨d15, bd15, A15, c15, e15, ok15, rfl, rfl⟩
 refine nl ?_
 refine rs (yl ag_87 0 ?_)
 refine yl ag_3 2 ?_
 refine Y1 (Yv.addN_i64 rfl eV eV (fun hg => by omega)) ?_
 refine cE ce_33 [p87 b3 p, z93 b2, i3 b1 1] (BdE p bd15 A15 c15) rfl rfl rfl ((cCall p (1 + 31) bd15 A15 c15 ok15 (by omega) ((1 + 2)) []).le (.cons .refl (.cons .refl (.cons nilSl (.refl))))) ?_
 rintro t57 S57 ⟨d16, bd16, A16, c16, e16, ok16, rfl, rfl⟩
 refine nl ?_
 refine rs (yl ag_87 0 ?_)
 refine ym ?_
 refine cE ce_89 [p87 b3 p, z93 b2, i3 b1 1] (BdE p bd16 A16 c16) rfl rfl rfl (cJump p (1 + 33) bd16 A16 c16 ok16 (by omega) d2) ?_
 rintro t60 S60 ⟨d17, bd17, A17, c17, e17, ok17, rfl, rfl⟩
 refine nl ?_
 refine rs (yl ag_87 0 ?_)
 refine ym ?_
 refine cE ce_88 [p87 b3 p, z93 b2, i3 b1 1] (BdE p bd17 A17 c17) rfl rfl rfl (cAt p (1 + 34) bd17 A17 c17 ok17 (by omega) d1) ?_
 rintro t63 S63 ⟨d18, bd18, A18, c18, e18, ok18, rfl, rfl⟩
 refine nl ?_
 refine rs (yl ag_87 0 ?_)
 refine cE ce_84 [p87 b3 p, z93 b2, i3 b1 1] (BdE p bd18 A18 c18) rfl rfl rfl (cLabel p (1 + 35) bd18 A18 c18 ok18 (by omega) ) ?_
 rintro t65 S65 ⟨d19, bd19, A19, c19, e19, ok19, rfl, rfl⟩
 refine ya ?_
 refine AW.rseqH (HeldCs [(b3, 0, Value.pointer (some ⟨p, 0, none⟩)), (b1, 0, Value.int .i64 (1))]) rfl (tells_cs (tcB 0 rfl rfl pinV (tcB 2 rfl rfl pinV (tc0)))) ?_
 refine T2 (i := 0) rfl (heldB 0 rfl ag_87 (E rfl rfl) rfl (fun _ _ => .v _)) ?_
 refine T2 (i := 1) rfl (heldAll (freeMove rfl (E rfl rfl))) ?_
 refine T2 (i := 2) rfl (heldB 0 rfl ag_87 (E rfl rfl) rfl (fun _ _ => .v _)) ?_
 refine T2 (i := 3) rfl (heldB 0 rfl ag_87 (E rfl rfl) rfl (fun _ _ => .v _)) ?_
 refine T2 (i := 5) rfl (heldB 0 rfl ag_87 (E rfl rfl) rfl (fun _ _ => .v _)) ?_
 refine T2 (i := 8) rfl (heldAll (freeMove rfl (E rfl rfl))) ?_
 refine AWH.one (i := 4) (by kernel_rfl) rfl ?_
 refine cE ce_87 [p87 b3 p, z93 b2, i3 b1 1] (BdE p bd19 A19 c19) rfl rfl rfl (cCell p (1 + 36) bd19 A19 c19 ok19 (by omega) 296) ?_
 rintro t70 S70 ⟨d20, bd20, A20, c20, e20, ok20, rfl, rfl⟩
 refine AWL.nil (kpH (tcB 0 rfl rfl pinV (tcB 2 rfl rfl pinV (tc0))) ?_)
 refine AWH.one (i := 6) (by kernel_rfl) rfl ?_
 refine cE ce_87 [p87 b3 p, z93 b2, i3 b1 1] (BdE p bd20 A20 c20) rfl rfl rfl (cCell p (1 + 40) bd20 A20 c20 ok20 (by omega) 288) ?_
 rintro t72 S72 ⟨d21, bd21, A21, c21, e21, ok21, rfl, rfl⟩
 refine AWL.nil (kpH (tcB 0 rfl rfl pinV (tcB 2 rfl rfl pinV (tc0))) ?_)
 refine AWH.one (i := 7) (by kernel_rfl) rfl ?_
 refine cE ce_86 [p87 b3 p, z93 b2, i3 b1 1] (BdE p bd21 A21 c21) rfl rfl rfl (cSub p (1 + 44) bd21 A21 c21 ok21 (by omega) d20 d21) ?_
 rintro t73 S73 ⟨d22, bd22, A22, c22, e22, ok22, rfl, rfl⟩
 refine AWL.nil (kpH (tcB 0 rfl rfl pinV (tcB 2 rfl rfl pinV (tc0))) ?_)
 refine AWH.one (i := 9) (by kernel_rfl) rfl ?_
 refine cE ce_85 [p87 b3 p, z93 b2, i3 b1 1] (BdE p bd22 A22 c22) rfl rfl rfl (cIf p (1 + 46) bd22 A22 c22 ok22 (by omega) 6 0 d22 d19) ?_
 rintro t75 S75 ⟨d23, bd23, A23, c23, e23, ok23, rfl, rfl⟩
 refine AWL.nil (kpH (tcB 0 rfl rfl pinV (tcB 2 rfl rfl pinV (tc0))) ?_)
 refine AWH.done (by kernel_rfl) ?_
 refine rs (yl ag_87 0 ?_)
 refine yl ag_3 2 ?_
 refine Y1 (Yv.addN_i64 rfl eV eV (fun hg => by omega)) ?_
 refine cE ce_33 [p87 b3 p, z93 b2, i3 b1 1] (BdE p bd23 A23 c23) rfl rfl rfl ((cCall p (1 + 47) bd23 A23 c23 ok23 (by omega) ((1 + 3)) []).le (.cons .refl (.cons .refl (.cons nilSl (.refl))))) ?_
 rintro t79 S79 ⟨d24, bd24, A24, c24, e24, ok24, rfl, rfl⟩
 refine nl ?_
 refine AW.rseqH (HeldCs [(b3, 0, Value.pointer (some ⟨p, 0, none⟩)), (b1, 0, Value.int .i64 (1))]) rfl (tells_cs (tcB 0 rfl rfl pinV (tcB 2 rfl rfl pinV (tc0)))) ?_
 refine T2 (i := 0) rfl (heldB 0 rfl ag_87 (E rfl rfl) rfl (fun _ _ => .v _)) ?_
 refine T2 (i := 1) rfl (heldB 0 rfl ag_87 (E rfl rfl) rfl (fun _ _ => .v _)) ?_
 refine T2 (i := 2) rfl (heldB 0 rfl ag_87 (E rfl rfl) rfl (fun _ _ => .v _)) ?_
 refine T2 (i := 4) rfl (heldB 0 rfl ag_87 (E rfl rfl) rfl (fun _ _ => .v _)) ?_
 refine T2 (i := 7) rfl (heldAll (freeMove rfl (E rfl rfl))) ?_
 refine T2 (i := 8) rfl (heldAll (freeMk rfl evs0 rfl (evsC (E rfl rfl) (evsC (E rfl rfl) evs0)) rfl)) ?_
 refine AWH.one (i := 3) (by kernel_rfl) rfl ?_
 refine cE ce_87 [p87 b3 p, z93 b2, i3 b1 1] (BdE p bd24 A24 c24) rfl rfl rfl (cCell p (1 + 49) bd24 A24 c24 ok24 (by omega) 296) ?_
 rintro t83 S83 ⟨d25, bd25, A25, c25, e25, ok25, rfl, rfl⟩
 refine AWL.nil (kpH (tcB 0 rfl rfl pinV (tcB 2 rfl rfl pinV (tc0))) ?_)
 refine AWH.one (i := 5) (by kernel_rfl) rfl ?_
 refine cE ce_87 [p87 b3 p, z93 b2, i3 b1 1] (BdE p bd25 A25 c25) rfl rfl rfl (cCell p (1 + 53) bd25 A25 c25 ok25 (by omega) 288) ?_
 rintro t85 S85 ⟨d26, bd26, A26, c26, e26, ok26, rfl, rfl⟩
 refine AWL.nil (kpH (tcB 0 rfl rfl pinV (tcB 2 rfl rfl pinV (tc0))) ?_)
 refine AWH.one (i := 6) (by kernel_rfl) rfl ?_
 refine cE ce_86 [p87 b3 p, z93 b2, i3 b1 1] (BdE p bd26 A26 c26) rfl rfl rfl (cSub p (1 + 57) bd26 A26 c26 ok26 (by omega) d25 d26) ?_
 rintro t86 S86 ⟨d27, bd27, A27, c27, e27, ok27, rfl, rfl⟩
 refine AWL.nil (kpH (tcB 0 rfl rfl pinV (tcB 2 rfl rfl pinV (tc0))) ?_)
 refine AWH.one (i := 9) (by kernel_rfl) rfl ?_
 refine cA ce_80 rfl rfl rfl (cThen p (1 + 59) 1 bd27 A27 c27 ok27 (by omega) 5 d27 0 90 #[.pointer (some ⟨b3, 0, none⟩), .pointer (some ⟨b1, 0, none⟩)] [p87 b3 p, z93 b2, i3 b1 1] (mAlloc1 ) ce_90 (fun bd9 A9 c9 ok9 => cAlloc1 p _ bd9 A9 c9 ok9 (by omega) [p87 b3 p, z93 b2, i3 b1 1] 0 b3 rfl 2 b1 rfl)) ?_
 rintro t89 S89 ⟨rfl, bd28, A28, c28, e28, ok28, rfl⟩
 refine AWL.nil (kpH (tcB 0 rfl rfl pinV (tcB 2 rfl rfl pinV (tc0))) ?_)
 refine AWH.done (by kernel_rfl) ?_
 refine rs (yl ag_87 0 ?_)
 refine ym ?_
 refine cE ce_88 [p87 b3 p, z93 b2, i3 b1 1] (BdE p bd28 A28 c28) rfl rfl rfl (cAt p (1 + 63) bd28 A28 c28 ok28 (by omega) d19) ?_
 rintro t92 S92 ⟨d29, bd29, A29, c29, e29, ok29, rfl, rfl⟩
 refine nl ?_
 refine rs (yl ag_87 0 ?_)
 refine cE ce_87 [p87 b3 p, z93 b2, i3 b1 1] (BdE p bd29 A29 c29) rfl rfl rfl (cCell p (1 + 64) bd29 A29 c29 ok29 (by omega) 288) ?_
 rintro t94 S94 ⟨d30, bd30, A30, c30, e30, ok30, rfl, rfl⟩
 refine ya ?_
 refine AW.rseqH (HeldCs [(b3, 0, Value.pointer (some ⟨p, 0, none⟩)), (b1, 0, Value.int .i64 (1))]) rfl (tells_cs (tcB 0 rfl rfl pinV (tcB 2 rfl rfl pinV (tc0)))) ?_
 refine T2 (i := 0) rfl (heldB 0 rfl ag_87 (E rfl rfl) rfl (fun _ _ => .v _)) ?_
 refine T2 (i := 1) rfl (heldB 0 rfl ag_87 (E rfl rfl) rfl (fun _ _ => .v _)) ?_
 refine T2 (i := 2) rfl (heldAll (freeMove rfl (E rfl rfl))) ?_
 refine AWH.one (i := 3) (by kernel_rfl) rfl ?_
 refine ym ?_
 refine AWL.nil (kpH (tcB 0 rfl rfl pinV (tcB 2 rfl rfl pinV (tc0))) ?_)
 refine AWH.one (i := 4) (by kernel_rfl) rfl ?_
 refine cE ce_83 [p87 b3 p, z93 b2, i3 b1 1] (BdE p bd30 A30 c30) rfl rfl rfl (cAdd p (1 + 68) bd30 A30 c30 ok30 (by omega) d30 0) ?_
 rintro t99 S99 ⟨d31, bd31, A31, c31, e31, ok31, rfl, rfl⟩
 refine AWL.nil (kpH (tcB 0 rfl rfl pinV (tcB 2 rfl rfl pinV (tc0))) ?_)
 refine AWH.one (i := 5) (by kernel_rfl) rfl ?_
 refine cE ce_76 [p87 b3 p, z93 b2, i3 b1 1] (BdE p bd31 A31 c31) rfl rfl rfl (cSetCell p (1 + 70) bd31 A31 c31 ok31 (by omega) 288 d31) ?_
 rintro t100 S100 ⟨d32, bd32, A32, c32, e32, ok32, rfl, rfl⟩
 refine AWL.nil (kpH (tcB 0 rfl rfl pinV (tcB 2 rfl rfl pinV (tc0))) ?_)
 refine AWH.done (by kernel_rfl) ?_
 refine rs (yl ag_87 0 ?_)
 refine cE ce_87 [p87 b3 p, z93 b2, i3 b1 1] (BdE p bd32 A32 c32) rfl rfl rfl (cCell p (1 + 73) bd32 A32 c32 ok32 (by omega) 320) ?_
 rintro t102 S102 ⟨d33, bd33, A33, c33, e33, ok33, rfl, rfl⟩
 refine ya ?_
 refine rs (yl ag_87 0 ?_)
 refine ym ?_
 refine ym ?_
 refine cE ce_92 [p87 b3 p, z93 b2, i3 b1 1] (BdE p bd33 A33 c33) rfl rfl rfl (cSave p (1 + 77) bd33 A33 c33 ok33 (by omega) d33 0 d30) ?_
 rintro t106 S106 ⟨d34, bd34, A34, c34, e34, ok34, rfl, rfl⟩
 refine nl ?_
 refine AW.rseqH (HeldCs [(b3, 0, Value.pointer (some ⟨p, 0, none⟩)), (b1, 0, Value.int .i64 (1))]) rfl (tells_cs (tcB 0 rfl rfl pinV (tcB 2 rfl rfl pinV (tc0)))) ?_
 refine T2 (i := 0) rfl (heldB 0 rfl ag_87 (E rfl rfl) rfl (fun _ _ => .v _)) ?_
 refine T2 (i := 1) rfl (heldB 0 rfl ag_87 (E rfl rfl) rfl (fun _ _ => .v _)) ?_
 refine AWH.one (i := 2) (by kernel_rfl) rfl ?_
 refine ym ?_
 refine AWL.nil (kpH (tcB 0 rfl rfl pinV (tcB 2 rfl rfl pinV (tc0))) ?_)
 refine AWH.one (i := 3) (by kernel_rfl) rfl ?_
 refine cE ce_93 [p87 b3 p, z93 b2, i3 b1 1] (BdE p bd34 A34 c34) rfl rfl rfl (cAddC p (1 + 78) bd34 A34 c34 ok34 (by omega) d33 8) ?_
 rintro t110 S110 ⟨d35, bd35, A35, c35, e35, ok35, rfl, rfl⟩
 refine AWL.nil (kpH (tcB 0 rfl rfl pinV (tcB 2 rfl rfl pinV (tc0))) ?_)
 refine AWH.one (i := 4) (by kernel_rfl) rfl ?_
 refine cE ce_76 [p87 b3 p, z93 b2, i3 b1 1] (BdE p bd35 A35 c35) rfl rfl rfl (cSetCell p (1 + 82) bd35 A35 c35 ok35 (by omega) 320 d35) ?_
 rintro t111 S111 ⟨d36, bd36, A36, c36, e36, ok36, rfl, rfl⟩
 refine AWL.nil (kpH (tcB 0 rfl rfl pinV (tcB 2 rfl rfl pinV (tc0))) ?_)
 refine AWH.done (by kernel_rfl) ?_
 refine AW.rseqH (HeldCs [(b3, 0, Value.pointer (some ⟨p, 0, none⟩)), (b1, 0, Value.int .i64 (1))]) rfl (tells_cs (tcB 0 rfl rfl pinV (tcB 2 rfl rfl pinV (tc0)))) ?_
 refine T2 (i := 0) rfl (heldB 0 rfl ag_87 (E rfl rfl) rfl (fun _ _ => .v _)) ?_
 refine T2 (i := 1) rfl (heldAll (freeMove rfl (E rfl rfl))) ?_
 refine AWH.one (i := 2) (by kernel_rfl) rfl ?_
 refine yl ag_87 0 ?_
 refine AWL.nil (kpH (tcB 0 rfl rfl pinV (tcB 2 rfl rfl pinV (tc0))) ?_)
 refine AWH.one (i := 3) (by kernel_rfl) rfl ?_
 refine cE ce_53 [p87 b3 p, z93 b2, i3 b1 1] (BdE p bd36 A36 c36) rfl rfl rfl (cC p (1 + 85) bd36 A36 c36 ok36 (by omega) 37) ?_
 rintro t115 S115 ⟨d37, bd37, A37, c37, e37, ok37, rfl, rfl⟩
 refine AWL.nil (kpH (tcB 0 rfl rfl pinV (tcB 2 rfl rfl pinV (tc0))) ?_)
 refine AWH.one (i := 4) (by kernel_rfl) rfl ?_
 refine cE ce_92 [p87 b3 p, z93 b2, i3 b1 1] (BdE p bd37 A37 c37) rfl rfl rfl (cSave p (1 + 87) bd37 A37 c37 ok37 (by omega) d30 0 d37) ?_
 rintro t116 S116 ⟨d38, bd38, A38, c38, e38, ok38, rfl, rfl⟩
 refine AWL.nil (kpH (tcB 0 rfl rfl pinV (tcB 2 rfl rfl pinV (tc0))) ?_)
 refine AWH.done (by kernel_rfl) ?_
 refine rs (yl ag_87 0 ?_)
 refine ym ?_
 refine cE ce_52 [p87 b3 p, z93 b2, i3 b1 1] (BdE p bd38 A38 c38) rfl rfl rfl (cRet p (1 + 88) bd38 A38 c38 ok38 (by omega) d30) ?_
 rintro t119 S119 ⟨d39, bd39, A39, c39, e39, ok39, rfl, rfl⟩
 refine nl ?_
 refine rs (yl ag_87 0 ?_)
 refine cE ce_35 [p87 b3 p, z93 b2, i3 b1 1] (BdE p bd39 A39 c39) rfl rfl rfl (cDone p bd39 A39 c39) ?_
 rintro t121 S121 ⟨rfl, rfl⟩
 refine AWL.storeBox (i := 1) rfl rfl rfl ag_93 rfl (E rfl rfl) (E rfl rfl) rfl rfl nB (nl ?_)
 refine AW.ret (retI (.cellA (i := 1) rfl ag_93 rfl rfl rfl .nil) ?_)
 show _ = T.agg (fnCells (fnB (mAllocFn (bd0 [103, 99, 46, 97, 108, 108, 111, 99] 1)).2))
 rw [show mAllocFn (bd0 [103, 99, 46, 97, 108, 108, 111, 99] 1) = ((), bd39) from (bq e1).trans ((bq e2).trans ((bq e3).trans ((bq e4).trans ((bq e5).trans ((bq e6).trans ((bq e7).trans ((bq e8).trans ((bq e9).trans ((bq e10).trans ((bq e11).trans ((bq e12).trans ((bq e13).trans ((bq e14).trans ((bq e15).trans ((bq e16).trans ((bq e17).trans ((bq e18).trans ((bq e19).trans ((bq e20).trans ((bq e21).trans ((bq e22).trans ((bq e23).trans ((bq e24).trans ((bq e25).trans ((bq e26).trans ((bq e27).trans ((bq e28).trans ((bq e29).trans ((bq e30).trans ((bq e31).trans ((bq e32).trans ((bq e33).trans ((bq e34).trans ((bq e35).trans ((bq e36).trans ((bq e37).trans ((bq e38).trans (e39))))))))))))))))))))))))))))))))))))))]
 rfl

theorem cAllocFn : ACalls Tryz.prog 55 [zi 1] [] (fun t S => t = .agg (fnCells fAllocFn) ∧ S = []) := (cAllocFn_).less fun t S' h => ⟨[], List.nil_sublist _, h, rfl⟩
def mMinorFn : BM Unit :=
 bnd (mCell (264)) fun d1 =>
 bnd (mCell (256)) fun d2 =>
 bnd (mSub (d1) (d2)) fun d3 =>
 bnd (mCell (296)) fun d4 =>
 bnd (mCell (288)) fun d5 =>
 bnd (mSub (d4) (d5)) fun d6 =>
 bnd (mThen (5) (d6) (d3) (mMinor1 )) fun _ =>
 bnd (mCell (256)) fun d8 =>
 bnd (mSetCell (344) (d8)) fun _ =>
 bnd (mCell (272)) fun d10 =>
 bnd (mCell (256)) fun d11 =>
 bnd (mSub (d10) (d11)) fun d12 =>
 bnd (mSetCell (352) (d12)) fun _ =>
 bnd (mC (0)) fun d14 =>
 bnd (mSetCell (360) (d14)) fun _ =>
 bnd (mSetCell (368) (d14)) fun _ =>
 bnd (mCell (288)) fun d17 =>
 bnd (mSetCell (328) (d17)) fun _ =>
 bnd (mCell (296)) fun d19 =>
 bnd (mSetCell (336) (d19)) fun _ =>
 bnd (mCall ((1 + 10)) [d17]) fun d21 =>
 bnd (mCell (328)) fun d22 =>
 bnd (mSetCell (288) (d22)) fun _ =>
 bnd (mEmptied ) fun _ =>
 mRetC (1)
def fMinorFn : Fn := fnB (mMinorFn (bd0 [103, 99, 46, 109, 105, 110, 111, 114] 0)).2
set_option maxHeartbeats 16000000 in
theorem cMinorFn_  :
    ACalls Tryz.prog 56 [zi 1] [] (fun t S => t = .agg (fnCells (fMinorFn))) := by
 refine ACalls.intro Tryz.func56 rfl Tryz.ntmps56 nB rfl fun X w0 => ?_
 refine rs ?_
 refine AWL.boxOp rfl rfl (B rfl) rfl (E rfl rfl) rfl (fun b1 => ?_)
 refine AWL.perm (List.perm_append_singleton _ _).symm ?_
 refine AWL.allocOp rfl rfl (B rfl) rfl zc_93 (fun b2 => ?_)
 refine AWL.perm (List.perm_append_singleton _ _).symm (nl ?_)
 refine rs ?_
 refine cE ce_32 [z93 b2, i3 b1 1] [] rfl rfl rfl (cNew [103, 99, 46, 109, 105, 110, 111, 114] 0) ?_
 rintro t8 S8 ⟨p, rfl, rfl⟩
 have ok0 : BdOk 1 (bd0 [103, 99, 46, 109, 105, 110, 111, 114] 0) := ⟨by decide, by decide, by decide, by decide, by decide, by decide, by decide⟩
 refine AWL.allocOp rfl rfl (B rfl) rfl zc_87 (fun b3 => ?_)
 refine AWL.perm (List.perm_append_singleton _ _).symm ?_
 refine AWL.storeBox (i := 0) rfl rfl rfl ag_87 rfl (E rfl rfl) (E rfl rfl) rfl rfl nB (nl ?_)
 refine AW.rseqH (HeldCs [(b3, 0, Value.pointer (some ⟨p, 0, none⟩)), (b1, 0, Value.int .i64 (1))]) rfl (tells_cs (tcB 0 rfl rfl pinV (tcB 2 rfl rfl pinV (tc0)))) ?_
 refine T2 (i := 0) rfl (heldB 0 rfl ag_87 (E rfl rfl) rfl (fun _ _ => .v _)) ?_
 refine T2 (i := 1) rfl (heldB 0 rfl ag_87 (E rfl rfl) rfl (fun _ _ => .v _)) ?_
 refine T2 (i := 3) rfl (heldB 0 rfl ag_87 (E rfl rfl) rfl (fun _ _ => .v _)) ?_
 refine AWH.one (i := 2) (by kernel_rfl) rfl ?_
 refine cE ce_87 [p87 b3 p, z93 b2, i3 b1 1] (BdE p (bd0 [103, 99, 46, 109, 105, 110, 111, 114] 0) none 0) rfl rfl rfl (cCell p 1 (bd0 [103, 99, 46, 109, 105, 110, 111, 114] 0) none 0 ok0 (by omega) 264) ?_
 rintro t11 S11 ⟨d1, bd1, A1, c1, e1, ok1, rfl, rfl⟩
 refine AWL.nil (kpH (tcB 0 rfl rfl pinV (tcB 2 rfl rfl pinV (tc0))) ?_)
 refine AWH.one (i := 4) (by kernel_rfl) rfl ?_
 refine cE ce_87 [p87 b3 p, z93 b2, i3 b1 1] (BdE p bd1 A1 c1) rfl rfl rfl (cCell p (1 + 4) bd1 A1 c1 ok1 (by omega) 256) ?_
 rintro t13 S13 ⟨d2, bd2, A2, c2, e2, ok2, rfl, rfl⟩
 refine AWL.nil (kpH (tcB 0 rfl rfl pinV (tcB 2 rfl rfl pinV (tc0))) ?_)
 refine AWH.one (i := 5) (by kernel_rfl) rfl ?_
 refine cE ce_86 [p87 b3 p, z93 b2, i3 b1 1] (BdE p bd2 A2 c2) rfl rfl rfl (cSub p (1 + 8) bd2 A2 c2 ok2 (by omega) d1 d2) ?_
 rintro t14 S14 ⟨d3, bd3, A3, c3, e3, ok3, rfl, rfl⟩
 refine AWL.nil (kpH (tcB 0 rfl rfl pinV (tcB 2 rfl rfl pinV (tc0))) ?_)
 refine AWH.one (i := 6) (by kernel_rfl) rfl ?_
 refine Y1 (Yv.assign rfl eV) ?_
 refine AWL.nil (kpH (tcB 0 rfl rfl pinV (tcB 2 rfl rfl pinV (tc0))) ?_)
 refine AWH.done (by kernel_rfl) ?_
 refine AW.rseqH (HeldCs [(b3, 0, Value.pointer (some ⟨p, 0, none⟩)), (b1, 0, Value.int .i64 (1))]) rfl (tells_cs (tcB 0 rfl rfl pinV (tcB 2 rfl rfl pinV (tc0)))) ?_
 refine T2 (i := 0) rfl (heldB 0 rfl ag_87 (E rfl rfl) rfl (fun _ _ => .v _)) ?_
 refine T2 (i := 1) rfl (heldB 0 rfl ag_87 (E rfl rfl) rfl (fun _ _ => .v _)) ?_
 refine T2 (i := 3) rfl (heldB 0 rfl ag_87 (E rfl rfl) rfl (fun _ _ => .v _)) ?_
 refine AWH.one (i := 2) (by kernel_rfl) rfl ?_
 refine cE ce_87 [p87 b3 p, z93 b2, i3 b1 1] (BdE p bd3 A3 c3) rfl rfl rfl (cCell p (1 + 10) bd3 A3 c3 ok3 (by omega) 296) ?_
 rintro t17 S17 ⟨d4, bd4, A4, c4, e4, ok4, rfl, rfl⟩
 refine AWL.nil (kpH (tcB 0 rfl rfl pinV (tcB 2 rfl rfl pinV (tc0))) ?_)
 refine AWH.one (i := 4) (by kernel_rfl) rfl ?_
 refine cE ce_87 [p87 b3 p, z93 b2, i3 b1 1] (BdE p bd4 A4 c4) rfl rfl rfl (cCell p (1 + 14) bd4 A4 c4 ok4 (by omega) 288) ?_
 rintro t19 S19 ⟨d5, bd5, A5, c5, e5, ok5, rfl, rfl⟩
 refine AWL.nil (kpH (tcB 0 rfl rfl pinV (tcB 2 rfl rfl pinV (tc0))) ?_)
 refine AWH.one (i := 5) (by kernel_rfl) rfl ?_
 refine cE ce_86 [p87 b3 p, z93 b2, i3 b1 1] (BdE p bd5 A5 c5) rfl rfl rfl (cSub p (1 + 18) bd5 A5 c5 ok5 (by omega) d4 d5) ?_
 rintro t20 S20 ⟨d6, bd6, A6, c6, e6, ok6, rfl, rfl⟩
 refine AWL.nil (kpH (tcB 0 rfl rfl pinV (tcB 2 rfl rfl pinV (tc0))) ?_)
 refine AWH.one (i := 6) (by kernel_rfl) rfl ?_
 refine Y1 (Yv.assign rfl eV) ?_
 refine AWL.nil (kpH (tcB 0 rfl rfl pinV (tcB 2 rfl rfl pinV (tc0))) ?_)
 refine AWH.done (by kernel_rfl) ?_
 refine rs (yl ag_87 0 ?_)
 refine ym ?_
 refine ym ?_
 refine Y1 (Yv.makeFunc rfl evs0 rfl (evsC eV (evsC eV evs0)) rfl) ?_
 refine cA ce_80 rfl rfl rfl (cThen p (1 + 20) 1 bd6 A6 c6 ok6 (by omega) 5 d6 d3 94 #[.pointer (some ⟨b3, 0, none⟩), .pointer (some ⟨b1, 0, none⟩)] [p87 b3 p, z93 b2, i3 b1 1] (mMinor1 ) ce_94 (fun bd9 A9 c9 ok9 => cMinor1 p _ bd9 A9 c9 ok9 (by omega) [p87 b3 p, z93 b2, i3 b1 1] 0 b3 rfl 2 b1 rfl)) ?_
 rintro t25 S25 ⟨rfl, bd7, A7, c7, e7, ok7, rfl⟩
 refine nl ?_
 refine AW.rseqH (HeldCs [(b3, 0, Value.pointer (some ⟨p, 0, none⟩)), (b1, 0, Value.int .i64 (1))]) rfl (tells_cs (tcB 0 rfl rfl pinV (tcB 2 rfl rfl pinV (tc0)))) ?_
 refine T2 (i := 0) rfl (heldB 0 rfl ag_87 (E rfl rfl) rfl (fun _ _ => .v _)) ?_
 refine AWH.one (i := 1) (by kernel_rfl) rfl ?_
 refine yl ag_87 0 ?_
 refine AWL.nil (kpH (tcB 0 rfl rfl pinV (tcB 2 rfl rfl pinV (tc0))) ?_)
 refine AWH.one (i := 2) (by kernel_rfl) rfl ?_
 refine cE ce_87 [p87 b3 p, z93 b2, i3 b1 1] (BdE p bd7 A7 c7) rfl rfl rfl (cCell p (1 + 24) bd7 A7 c7 ok7 (by omega) 256) ?_
 rintro t28 S28 ⟨d8, bd8, A8, c8, e8, ok8, rfl, rfl⟩
 refine AWL.nil (kpH (tcB 0 rfl rfl pinV (tcB 2 rfl rfl pinV (tc0))) ?_)
 refine AWH.one (i := 3) (by kernel_rfl) rfl ?_
 refine cE ce_76 [p87 b3 p, z93 b2, i3 b1 1] (BdE p bd8 A8 c8) rfl rfl rfl (cSetCell p (1 + 28) bd8 A8 c8 ok8 (by omega) 344 d8) ?_
 rintro t29 S29 ⟨d9, bd9, A9, c9, e9, ok9, rfl, rfl⟩
 refine AWL.nil (kpH (tcB 0 rfl rfl pinV (tcB 2 rfl rfl pinV (tc0))) ?_)
 refine AWH.done (by kernel_rfl) ?_
 refine AW.rseqH (HeldCs [(b3, 0, Value.pointer (some ⟨p, 0, none⟩)), (b1, 0, Value.int .i64 (1))]) rfl (tells_cs (tcB 0 rfl rfl pinV (tcB 2 rfl rfl pinV (tc0)))) ?_
 refine T2 (i := 0) rfl (heldB 0 rfl ag_87 (E rfl rfl) rfl (fun _ _ => .v _)) ?_
 refine T2 (i := 1) rfl (heldB 0 rfl ag_87 (E rfl rfl) rfl (fun _ _ => .v _)) ?_
 refine T2 (i := 2) rfl (heldB 0 rfl ag_87 (E rfl rfl) rfl (fun _ _ => .v _)) ?_
 refine T2 (i := 4) rfl (heldB 0 rfl ag_87 (E rfl rfl) rfl (fun _ _ => .v _)) ?_
 refine AWH.one (i := 3) (by kernel_rfl) rfl ?_
 refine cE ce_87 [p87 b3 p, z93 b2, i3 b1 1] (BdE p bd9 A9 c9) rfl rfl rfl (cCell p (1 + 31) bd9 A9 c9 ok9 (by omega) 272) ?_
 rintro t33 S33 ⟨d10, bd10, A10, c10, e10, ok10, rfl, rfl⟩
 refine AWL.nil (kpH (tcB 0 rfl rfl pinV (tcB 2 rfl rfl pinV (tc0))) ?_)
 refine AWH.one (i := 5) (by kernel_rfl) rfl ?_
 refine cE ce_87 [p87 b3 p, z93 b2, i3 b1 1] (BdE p bd10 A10 c10) rfl rfl rfl (cCell p (1 + 35) bd10 A10 c10 ok10 (by omega) 256) ?_
 rintro t35 S35 ⟨d11, bd11, A11, c11, e11, ok11, rfl, rfl⟩
 refine AWL.nil (kpH (tcB 0 rfl rfl pinV (tcB 2 rfl rfl pinV (tc0))) ?_)
 refine AWH.one (i := 6) (by kernel_rfl) rfl ?_
 refine cE ce_86 [p87 b3 p, z93 b2, i3 b1 1] (BdE p bd11 A11 c11) rfl rfl rfl (cSub p (1 + 39) bd11 A11 c11 ok11 (by omega) d10 d11) ?_
 rintro t36 S36 ⟨d12, bd12, A12, c12, e12, ok12, rfl, rfl⟩
 refine AWL.nil (kpH (tcB 0 rfl rfl pinV (tcB 2 rfl rfl pinV (tc0))) ?_)
 refine AWH.one (i := 7) (by kernel_rfl) rfl ?_
 refine cE ce_76 [p87 b3 p, z93 b2, i3 b1 1] (BdE p bd12 A12 c12) rfl rfl rfl (cSetCell p (1 + 41) bd12 A12 c12 ok12 (by omega) 352 d12) ?_
 rintro t37 S37 ⟨d13, bd13, A13, c13, e13, ok13, rfl, rfl⟩
 refine AWL.nil (kpH (tcB 0 rfl rfl pinV (tcB 2 rfl rfl pinV (tc0))) ?_)
 refine AWH.done (by kernel_rfl) ?_
 refine rs (yl ag_87 0 ?_)
 refine cE ce_53 [p87 b3 p, z93 b2, i3 b1 1] (BdE p bd13 A13 c13) rfl rfl rfl (cC p (1 + 44) bd13 A13 c13 ok13 (by omega) 0) ?_
 rintro t39 S39 ⟨d14, bd14, A14, c14, e14, ok14, rfl, rfl⟩
 refine ya ?_
 refine rs (yl ag_87 0 ?_)
 refine ym ?_
 refine cE ce_76 [p87 b3 p, z93 b2, i3 b1 1] (BdE p bd14 A14 c14) rfl rfl rfl (cSetCell p (1 + 46) bd14 A14 c14 ok14 (by omega) 360 d14) ?_
 rintro t42 S42 ⟨d15, bd15, A15, c15, e15, ok15, rfl, rfl⟩
 refine nl ?_
 refine rs (yl ag_87 0 ?_)
 refine ym ?_
 refine cE ce_76 [p87 b3 p, z93 b2, i3 b1 1] (BdE p bd15 A15 c15) rfl rfl rfl (cSetCell p (1 + 49) bd15 A15 c15 ok15 (by omega) 368 d14) ?_
 rintro t45 S45 ⟨d16, bd16, A16, c16, e16, ok16, rfl, rfl⟩
 refine nl ?_
 refine rs (yl ag_87 0 ?_)
 refine cE ce_87 [p87 b3 p, z93 b2, i3 b1 1] (BdE p bd16 A16 c16) rfl rfl rfl (cCell p (1 + 52) bd16 A16 c16 ok16 (by omega) 288) ?_
 rintro t47 S47 ⟨d17, bd17, A17, c17, e17, ok17, rfl, rfl⟩
 refine ya ?_
 refine rs (yl ag_87 0 ?_)
 refine ym ?_
 refine cE ce_76 [p87 b3 p, z93 b2, i3 b1 1] (BdE p bd17 A17 c17) rfl rfl rfl (cSetCell p (1 + 56) bd17 A17 c17 ok17 (by omega) 328 d17) ?_
 rintro t50 S50 ⟨d18, bd18, A18, c18, e18, ok18, rfl, rfl⟩
 refine nl ?_
 refine AW.rseqH (HeldCs [(b3, 0, Value.pointer (some ⟨p, 0, none⟩)), (b1, 0, Value.int .i64 (1))]) rfl (tells_cs (tcB 0 rfl rfl pinV (tcB 2 rfl rfl pinV (tc0)))) ?_
 refine T2 (i := 0) rfl (heldB 0 rfl ag_87 (E rfl rfl) rfl (fun _ _ => .v _)) ?_
 refine AWH.one (i := 1) (by kernel_rfl) rfl ?_
 refine yl ag_87 0 ?_
 refine AWL.nil (kpH (tcB 0 rfl rfl pinV (tcB 2 rfl rfl pinV (tc0))) ?_)
 refine AWH.one (i := 2) (by kernel_rfl) rfl ?_
 refine cE ce_87 [p87 b3 p, z93 b2, i3 b1 1] (BdE p bd18 A18 c18) rfl rfl rfl (cCell p (1 + 59) bd18 A18 c18 ok18 (by omega) 296) ?_
 rintro t53 S53 ⟨d19, bd19, A19, c19, e19, ok19, rfl, rfl⟩
 refine AWL.nil (kpH (tcB 0 rfl rfl pinV (tcB 2 rfl rfl pinV (tc0))) ?_)
 refine AWH.one (i := 3) (by kernel_rfl) rfl ?_
 refine cE ce_76 [p87 b3 p, z93 b2, i3 b1 1] (BdE p bd19 A19 c19) rfl rfl rfl (cSetCell p (1 + 63) bd19 A19 c19 ok19 (by omega) 336 d19) ?_
 rintro t54 S54 ⟨d20, bd20, A20, c20, e20, ok20, rfl, rfl⟩
 refine AWL.nil (kpH (tcB 0 rfl rfl pinV (tcB 2 rfl rfl pinV (tc0))) ?_)
 refine AWH.done (by kernel_rfl) ?_
 refine rs (yl ag_87 0 ?_)
 refine yl ag_3 2 ?_
 refine Y1 (Yv.addN_i64 rfl eV eV (fun hg => by omega)) ?_
 refine ym ?_
 refine AWL.buildSlice1 rfl rfl (B rfl) rfl el_35 rfl (evsC (E rfl rfl) evs0) nB rfl rfl ?_
 refine cE ce_33 [p87 b3 p, z93 b2, i3 b1 1] (BdE p bd20 A20 c20) rfl rfl rfl (cCall p (1 + 66) bd20 A20 c20 ok20 (by omega) ((1 + 10)) [d17]) ?_
 rintro t60 S60 ⟨d21, bd21, A21, c21, e21, ok21, rfl, rfl⟩
 refine nl ?_
 refine AW.rseqH (HeldCs [(b3, 0, Value.pointer (some ⟨p, 0, none⟩)), (b1, 0, Value.int .i64 (1))]) rfl (tells_cs (tcB 0 rfl rfl pinV (tcB 2 rfl rfl pinV (tc0)))) ?_
 refine T2 (i := 0) rfl (heldB 0 rfl ag_87 (E rfl rfl) rfl (fun _ _ => .v _)) ?_
 refine AWH.one (i := 1) (by kernel_rfl) rfl ?_
 refine yl ag_87 0 ?_
 refine AWL.nil (kpH (tcB 0 rfl rfl pinV (tcB 2 rfl rfl pinV (tc0))) ?_)
 refine AWH.one (i := 2) (by kernel_rfl) rfl ?_
 refine cE ce_87 [p87 b3 p, z93 b2, i3 b1 1] (BdE p bd21 A21 c21) rfl rfl rfl (cCell p (1 + 68) bd21 A21 c21 ok21 (by omega) 328) ?_
 rintro t63 S63 ⟨d22, bd22, A22, c22, e22, ok22, rfl, rfl⟩
 refine AWL.nil (kpH (tcB 0 rfl rfl pinV (tcB 2 rfl rfl pinV (tc0))) ?_)
 refine AWH.one (i := 3) (by kernel_rfl) rfl ?_
 refine cE ce_76 [p87 b3 p, z93 b2, i3 b1 1] (BdE p bd22 A22 c22) rfl rfl rfl (cSetCell p (1 + 72) bd22 A22 c22 ok22 (by omega) 288 d22) ?_
 rintro t64 S64 ⟨d23, bd23, A23, c23, e23, ok23, rfl, rfl⟩
 refine AWL.nil (kpH (tcB 0 rfl rfl pinV (tcB 2 rfl rfl pinV (tc0))) ?_)
 refine AWH.done (by kernel_rfl) ?_
 refine rs (yl ag_87 0 ?_)
 refine cE ce_95 [p87 b3 p, z93 b2, i3 b1 1] (BdE p bd23 A23 c23) rfl rfl rfl (cEmptied p (1 + 75) bd23 A23 c23 ok23 (by omega) ) ?_
 rintro t66 S66 ⟨d24, bd24, A24, c24, e24, ok24, rfl, rfl⟩
 refine nl ?_
 refine rs (yl ag_87 0 ?_)
 refine cE ce_34 [p87 b3 p, z93 b2, i3 b1 1] (BdE p bd24 A24 c24) rfl rfl rfl (cRetC p (1 + 82) bd24 A24 c24 ok24 (by omega) 1) ?_
 rintro t68 S68 ⟨d25, bd25, A25, c25, e25, ok25, rfl, rfl⟩
 refine nl ?_
 refine rs (yl ag_87 0 ?_)
 refine cE ce_35 [p87 b3 p, z93 b2, i3 b1 1] (BdE p bd25 A25 c25) rfl rfl rfl (cDone p bd25 A25 c25) ?_
 rintro t70 S70 ⟨rfl, rfl⟩
 refine AWL.storeBox (i := 1) rfl rfl rfl ag_93 rfl (E rfl rfl) (E rfl rfl) rfl rfl nB (nl ?_)
 refine AW.ret (retI (.cellA (i := 1) rfl ag_93 rfl rfl rfl .nil) ?_)
 show _ = T.agg (fnCells (fnB (mMinorFn (bd0 [103, 99, 46, 109, 105, 110, 111, 114] 0)).2))
 rw [show mMinorFn (bd0 [103, 99, 46, 109, 105, 110, 111, 114] 0) = ((), bd25) from (bq e1).trans ((bq e2).trans ((bq e3).trans ((bq e4).trans ((bq e5).trans ((bq e6).trans ((bq e7).trans ((bq e8).trans ((bq e9).trans ((bq e10).trans ((bq e11).trans ((bq e12).trans ((bq e13).trans ((bq e14).trans ((bq e15).trans ((bq e16).trans ((bq e17).trans ((bq e18).trans ((bq e19).trans ((bq e20).trans ((bq e21).trans ((bq e22).trans ((bq e23).trans ((bq e24).trans (e25))))))))))))))))))))))))]
 rfl

theorem cMinorFn : ACalls Tryz.prog 56 [zi 1] [] (fun t S => t = .agg (fnCells fMinorFn) ∧ S = []) := (cMinorFn_).less fun t S' h => ⟨[], List.nil_sublist _, h, rfl⟩
def mMajorFn : BM Unit :=
 bnd (mCell (312)) fun d1 =>
 bnd (mWhile (5) (mMajor1 (d1)) (mMajor2 (d1))) fun _ =>
 bnd (mCell (312)) fun d3 =>
 bnd (mSetCell (320) (d3)) fun _ =>
 bnd (mCell (256)) fun d5 =>
 bnd (mSetCell (344) (d5)) fun _ =>
 bnd (mCell (272)) fun d7 =>
 bnd (mCell (256)) fun d8 =>
 bnd (mSub (d7) (d8)) fun d9 =>
 bnd (mSetCell (352) (d9)) fun _ =>
 bnd (mCell (280)) fun d11 =>
 bnd (mSetCell (360) (d11)) fun _ =>
 bnd (mCell (376)) fun d13 =>
 bnd (mSetCell (368) (d13)) fun _ =>
 bnd (mCell (304)) fun d15 =>
 bnd (mSetCell (328) (d15)) fun _ =>
 bnd (mCell (376)) fun d17 =>
 bnd (mAdd (d15) (d17)) fun d18 =>
 bnd (mSetCell (336) (d18)) fun _ =>
 bnd (mCall ((1 + 10)) [d15]) fun d20 =>
 bnd (mCell (280)) fun d21 =>
 bnd (mCell (304)) fun d22 =>
 bnd (mSetCell (280) (d22)) fun _ =>
 bnd (mSetCell (304) (d21)) fun _ =>
 bnd (mCell (328)) fun d25 =>
 bnd (mSetCell (288) (d25)) fun _ =>
 bnd (mCell (376)) fun d27 =>
 bnd (mAdd (d22) (d27)) fun d28 =>
 bnd (mSetCell (296) (d28)) fun _ =>
 bnd (mEmptied ) fun _ =>
 mRetC (1)
def fMajorFn : Fn := fnB (mMajorFn (bd0 [103, 99, 46, 109, 97, 106, 111, 114] 0)).2
set_option maxHeartbeats 16000000 in
theorem cMajorFn_  :
    ACalls Tryz.prog 57 [zi 1] [] (fun t S => t = .agg (fnCells (fMajorFn))) := by
 refine ACalls.intro Tryz.func57 rfl Tryz.ntmps57 nB rfl fun X w0 => ?_
 refine rs ?_
 refine AWL.allocOp rfl rfl (B rfl) rfl zc_93 (fun b2 => ?_)
 refine AWL.perm (List.perm_append_singleton _ _).symm (nl ?_)
 refine rs ?_
 refine cE ce_32 [z93 b2] [] rfl rfl rfl (cNew [103, 99, 46, 109, 97, 106, 111, 114] 0) ?_
 rintro t8 S8 ⟨p, rfl, rfl⟩
 have ok0 : BdOk 1 (bd0 [103, 99, 46, 109, 97, 106, 111, 114] 0) := ⟨by decide, by decide, by decide, by decide, by decide, by decide, by decide⟩
 refine AWL.allocOp rfl rfl (B rfl) rfl zc_87 (fun b3 => ?_)
 refine AWL.perm (List.perm_append_singleton _ _).symm ?_
 refine AWL.storeBox (i := 0) rfl rfl rfl ag_87 rfl (E rfl rfl) (E rfl rfl) rfl rfl nB (nl ?_)
 refine rs (yl ag_87 0 ?_)
 refine cE ce_87 [p87 b3 p, z93 b2] (BdE p (bd0 [103, 99, 46, 109, 97, 106, 111, 114] 0) none 0) rfl rfl rfl (cCell p 1 (bd0 [103, 99, 46, 109, 97, 106, 111, 114] 0) none 0 ok0 (by omega) 312) ?_
 rintro t10 S10 ⟨d1, bd1, A1, c1, e1, ok1, rfl, rfl⟩
 refine AWL.allocOp rfl rfl (B rfl) rfl zc_3 (fun b4 => ?_)
 refine AWL.perm (List.perm_append_singleton _ _).symm ?_
 refine AWL.storeBox (i := 0) rfl rfl rfl ag_3 rfl (E rfl rfl) (E rfl rfl) rfl rfl nB (nl ?_)
 refine rs (yl ag_87 1 ?_)
 refine Y1 (Yv.makeFunc rfl evs0 rfl (evsC eV (evsC eV evs0)) rfl) ?_
 refine Y1 (Yv.makeFunc rfl evs0 rfl (evsC eV (evsC eV evs0)) rfl) ?_
 refine cA ce_96 rfl rfl rfl (cWhile p (1 + 4) 12 4 bd1 A1 c1 ok1 (by omega) 5 97 98 #[.pointer (some ⟨b4, 0, none⟩), .pointer (some ⟨b3, 0, none⟩)] #[.pointer (some ⟨b3, 0, none⟩), .pointer (some ⟨b4, 0, none⟩)] [i3 b4 d1, p87 b3 p, z93 b2] (mMajor1 d1) (mMajor2 d1) ce_97 ce_98 (fun bd9 A9 c9 ok9 => cMajor1 p _ bd9 A9 c9 ok9 (by omega) [i3 b4 d1, p87 b3 p, z93 b2] 0 b4 d1 rfl 1 b3 rfl) (fun bd9 A9 c9 ok9 => cMajor2 p _ bd9 A9 c9 ok9 (by omega) [i3 b4 d1, p87 b3 p, z93 b2] 1 b3 rfl 0 b4 d1 rfl)) ?_
 rintro t14 S14 ⟨rfl, bd2, A2, c2, e2, ok2, rfl⟩
 refine nl ?_
 refine AW.rseqH (HeldCs [(b4, 0, Value.int .i64 (d1)), (b3, 0, Value.pointer (some ⟨p, 0, none⟩))]) rfl (tells_cs (tcB 0 rfl rfl pinV (tcB 1 rfl rfl pinV (tc0)))) ?_
 refine T2 (i := 0) rfl (heldB 1 rfl ag_87 (E rfl rfl) rfl (fun _ _ => .v _)) ?_
 refine AWH.one (i := 1) (by kernel_rfl) rfl ?_
 refine yl ag_87 1 ?_
 refine AWL.nil (kpH (tcB 0 rfl rfl pinV (tcB 1 rfl rfl pinV (tc0))) ?_)
 refine AWH.one (i := 2) (by kernel_rfl) rfl ?_
 refine cE ce_87 [i3 b4 d1, p87 b3 p, z93 b2] (BdE p bd2 A2 c2) rfl rfl rfl (cCell p (1 + 26) bd2 A2 c2 ok2 (by omega) 312) ?_
 rintro t17 S17 ⟨d3, bd3, A3, c3, e3, ok3, rfl, rfl⟩
 refine AWL.nil (kpH (tcB 0 rfl rfl pinV (tcB 1 rfl rfl pinV (tc0))) ?_)
 refine AWH.one (i := 3) (by kernel_rfl) rfl ?_
 refine cE ce_76 [i3 b4 d1, p87 b3 p, z93 b2] (BdE p bd3 A3 c3) rfl rfl rfl (cSetCell p (1 + 30) bd3 A3 c3 ok3 (by omega) 320 d3) ?_
 rintro t18 S18 ⟨d4, bd4, A4, c4, e4, ok4, rfl, rfl⟩
 refine AWL.nil (kpH (tcB 0 rfl rfl pinV (tcB 1 rfl rfl pinV (tc0))) ?_)
 refine AWH.done (by kernel_rfl) ?_
 refine AW.rseqH (HeldCs [(b4, 0, Value.int .i64 (d1)), (b3, 0, Value.pointer (some ⟨p, 0, none⟩))]) rfl (tells_cs (tcB 0 rfl rfl pinV (tcB 1 rfl rfl pinV (tc0)))) ?_
 refine T2 (i := 0) rfl (heldB 1 rfl ag_87 (E rfl rfl) rfl (fun _ _ => .v _)) ?_
 refine AWH.one (i := 1) (by kernel_rfl) rfl ?_
 refine yl ag_87 1 ?_
 refine AWL.nil (kpH (tcB 0 rfl rfl pinV (tcB 1 rfl rfl pinV (tc0))) ?_)
 refine AWH.one (i := 2) (by kernel_rfl) rfl ?_
 refine cE ce_87 [i3 b4 d1, p87 b3 p, z93 b2] (BdE p bd4 A4 c4) rfl rfl rfl (cCell p (1 + 33) bd4 A4 c4 ok4 (by omega) 256) ?_
 rintro t21 S21 ⟨d5, bd5, A5, c5, e5, ok5, rfl, rfl⟩
 refine AWL.nil (kpH (tcB 0 rfl rfl pinV (tcB 1 rfl rfl pinV (tc0))) ?_)
 refine AWH.one (i := 3) (by kernel_rfl) rfl ?_
 refine cE ce_76 [i3 b4 d1, p87 b3 p, z93 b2] (BdE p bd5 A5 c5) rfl rfl rfl (cSetCell p (1 + 37) bd5 A5 c5 ok5 (by omega) 344 d5) ?_
 rintro t22 S22 ⟨d6, bd6, A6, c6, e6, ok6, rfl, rfl⟩
 refine AWL.nil (kpH (tcB 0 rfl rfl pinV (tcB 1 rfl rfl pinV (tc0))) ?_)
 refine AWH.done (by kernel_rfl) ?_
 refine AW.rseqH (HeldCs [(b4, 0, Value.int .i64 (d1)), (b3, 0, Value.pointer (some ⟨p, 0, none⟩))]) rfl (tells_cs (tcB 0 rfl rfl pinV (tcB 1 rfl rfl pinV (tc0)))) ?_
 refine T2 (i := 0) rfl (heldB 1 rfl ag_87 (E rfl rfl) rfl (fun _ _ => .v _)) ?_
 refine T2 (i := 1) rfl (heldB 1 rfl ag_87 (E rfl rfl) rfl (fun _ _ => .v _)) ?_
 refine T2 (i := 2) rfl (heldB 1 rfl ag_87 (E rfl rfl) rfl (fun _ _ => .v _)) ?_
 refine T2 (i := 4) rfl (heldB 1 rfl ag_87 (E rfl rfl) rfl (fun _ _ => .v _)) ?_
 refine AWH.one (i := 3) (by kernel_rfl) rfl ?_
 refine cE ce_87 [i3 b4 d1, p87 b3 p, z93 b2] (BdE p bd6 A6 c6) rfl rfl rfl (cCell p (1 + 40) bd6 A6 c6 ok6 (by omega) 272) ?_
 rintro t26 S26 ⟨d7, bd7, A7, c7, e7, ok7, rfl, rfl⟩
 refine AWL.nil (kpH (tcB 0 rfl rfl pinV (tcB 1 rfl rfl pinV (tc0))) ?_)
 refine AWH.one (i := 5) (by kernel_rfl) rfl ?_
 refine cE ce_87 [i3 b4 d1, p87 b3 p, z93 b2] (BdE p bd7 A7 c7) rfl rfl rfl (cCell p (1 + 44) bd7 A7 c7 ok7 (by omega) 256) ?_
 rintro t28 S28 ⟨d8, bd8, A8, c8, e8, ok8, rfl, rfl⟩
 refine AWL.nil (kpH (tcB 0 rfl rfl pinV (tcB 1 rfl rfl pinV (tc0))) ?_)
 refine AWH.one (i := 6) (by kernel_rfl) rfl ?_
 refine cE ce_86 [i3 b4 d1, p87 b3 p, z93 b2] (BdE p bd8 A8 c8) rfl rfl rfl (cSub p (1 + 48) bd8 A8 c8 ok8 (by omega) d7 d8) ?_
 rintro t29 S29 ⟨d9, bd9, A9, c9, e9, ok9, rfl, rfl⟩
 refine AWL.nil (kpH (tcB 0 rfl rfl pinV (tcB 1 rfl rfl pinV (tc0))) ?_)
 refine AWH.one (i := 7) (by kernel_rfl) rfl ?_
 refine cE ce_76 [i3 b4 d1, p87 b3 p, z93 b2] (BdE p bd9 A9 c9) rfl rfl rfl (cSetCell p (1 + 50) bd9 A9 c9 ok9 (by omega) 352 d9) ?_
 rintro t30 S30 ⟨d10, bd10, A10, c10, e10, ok10, rfl, rfl⟩
 refine AWL.nil (kpH (tcB 0 rfl rfl pinV (tcB 1 rfl rfl pinV (tc0))) ?_)
 refine AWH.done (by kernel_rfl) ?_
 refine AW.rseqH (HeldCs [(b4, 0, Value.int .i64 (d1)), (b3, 0, Value.pointer (some ⟨p, 0, none⟩))]) rfl (tells_cs (tcB 0 rfl rfl pinV (tcB 1 rfl rfl pinV (tc0)))) ?_
 refine T2 (i := 0) rfl (heldB 1 rfl ag_87 (E rfl rfl) rfl (fun _ _ => .v _)) ?_
 refine AWH.one (i := 1) (by kernel_rfl) rfl ?_
 refine yl ag_87 1 ?_
 refine AWL.nil (kpH (tcB 0 rfl rfl pinV (tcB 1 rfl rfl pinV (tc0))) ?_)
 refine AWH.one (i := 2) (by kernel_rfl) rfl ?_
 refine cE ce_87 [i3 b4 d1, p87 b3 p, z93 b2] (BdE p bd10 A10 c10) rfl rfl rfl (cCell p (1 + 53) bd10 A10 c10 ok10 (by omega) 280) ?_
 rintro t33 S33 ⟨d11, bd11, A11, c11, e11, ok11, rfl, rfl⟩
 refine AWL.nil (kpH (tcB 0 rfl rfl pinV (tcB 1 rfl rfl pinV (tc0))) ?_)
 refine AWH.one (i := 3) (by kernel_rfl) rfl ?_
 refine cE ce_76 [i3 b4 d1, p87 b3 p, z93 b2] (BdE p bd11 A11 c11) rfl rfl rfl (cSetCell p (1 + 57) bd11 A11 c11 ok11 (by omega) 360 d11) ?_
 rintro t34 S34 ⟨d12, bd12, A12, c12, e12, ok12, rfl, rfl⟩
 refine AWL.nil (kpH (tcB 0 rfl rfl pinV (tcB 1 rfl rfl pinV (tc0))) ?_)
 refine AWH.done (by kernel_rfl) ?_
 refine AW.rseqH (HeldCs [(b4, 0, Value.int .i64 (d1)), (b3, 0, Value.pointer (some ⟨p, 0, none⟩))]) rfl (tells_cs (tcB 0 rfl rfl pinV (tcB 1 rfl rfl pinV (tc0)))) ?_
 refine T2 (i := 0) rfl (heldB 1 rfl ag_87 (E rfl rfl) rfl (fun _ _ => .v _)) ?_
 refine AWH.one (i := 1) (by kernel_rfl) rfl ?_
 refine yl ag_87 1 ?_
 refine AWL.nil (kpH (tcB 0 rfl rfl pinV (tcB 1 rfl rfl pinV (tc0))) ?_)
 refine AWH.one (i := 2) (by kernel_rfl) rfl ?_
 refine cE ce_87 [i3 b4 d1, p87 b3 p, z93 b2] (BdE p bd12 A12 c12) rfl rfl rfl (cCell p (1 + 60) bd12 A12 c12 ok12 (by omega) 376) ?_
 rintro t37 S37 ⟨d13, bd13, A13, c13, e13, ok13, rfl, rfl⟩
 refine AWL.nil (kpH (tcB 0 rfl rfl pinV (tcB 1 rfl rfl pinV (tc0))) ?_)
 refine AWH.one (i := 3) (by kernel_rfl) rfl ?_
 refine cE ce_76 [i3 b4 d1, p87 b3 p, z93 b2] (BdE p bd13 A13 c13) rfl rfl rfl (cSetCell p (1 + 64) bd13 A13 c13 ok13 (by omega) 368 d13) ?_
 rintro t38 S38 ⟨d14, bd14, A14, c14, e14, ok14, rfl, rfl⟩
 refine AWL.nil (kpH (tcB 0 rfl rfl pinV (tcB 1 rfl rfl pinV (tc0))) ?_)
 refine AWH.done (by kernel_rfl) ?_
 refine rs (yl ag_87 1 ?_)
 refine cE ce_87 [i3 b4 d1, p87 b3 p, z93 b2] (BdE p bd14 A14 c14) rfl rfl rfl (cCell p (1 + 67) bd14 A14 c14 ok14 (by omega) 304) ?_
 rintro t40 S40 ⟨d15, bd15, A15, c15, e15, ok15, rfl, rfl⟩
 refine ya ?_
 refine rs (yl ag_87 1 ?_)
 refine ym ?_
 refine cE ce_76 [i3 b4 d1, p87 b3 p, z93 b2] (BdE p bd15 A15 c15) rfl rfl rfl (cSetCell p (1 + 71) bd15 A15 c15 ok15 (by omega) 328 d15) ?_
 rintro t43 S43 ⟨d16, bd16, A16, c16, e16, ok16, rfl, rfl⟩
 refine nl ?_
 refine AW.rseqH (HeldCs [(b4, 0, Value.int .i64 (d1)), (b3, 0, Value.pointer (some ⟨p, 0, none⟩))]) rfl (tells_cs (tcB 0 rfl rfl pinV (tcB 1 rfl rfl pinV (tc0)))) ?_
 refine T2 (i := 0) rfl (heldB 1 rfl ag_87 (E rfl rfl) rfl (fun _ _ => .v _)) ?_
 refine T2 (i := 1) rfl (heldB 1 rfl ag_87 (E rfl rfl) rfl (fun _ _ => .v _)) ?_
 refine T2 (i := 2) rfl (heldAll (freeMove rfl (E rfl rfl))) ?_
 refine AWH.one (i := 3) (by kernel_rfl) rfl ?_
 refine yl ag_87 1 ?_
 refine AWL.nil (kpH (tcB 0 rfl rfl pinV (tcB 1 rfl rfl pinV (tc0))) ?_)
 refine AWH.one (i := 4) (by kernel_rfl) rfl ?_
 refine cE ce_87 [i3 b4 d1, p87 b3 p, z93 b2] (BdE p bd16 A16 c16) rfl rfl rfl (cCell p (1 + 74) bd16 A16 c16 ok16 (by omega) 376) ?_
 rintro t48 S48 ⟨d17, bd17, A17, c17, e17, ok17, rfl, rfl⟩
 refine AWL.nil (kpH (tcB 0 rfl rfl pinV (tcB 1 rfl rfl pinV (tc0))) ?_)
 refine AWH.one (i := 5) (by kernel_rfl) rfl ?_
 refine cE ce_83 [i3 b4 d1, p87 b3 p, z93 b2] (BdE p bd17 A17 c17) rfl rfl rfl (cAdd p (1 + 78) bd17 A17 c17 ok17 (by omega) d15 d17) ?_
 rintro t49 S49 ⟨d18, bd18, A18, c18, e18, ok18, rfl, rfl⟩
 refine AWL.nil (kpH (tcB 0 rfl rfl pinV (tcB 1 rfl rfl pinV (tc0))) ?_)
 refine AWH.one (i := 6) (by kernel_rfl) rfl ?_
 refine cE ce_76 [i3 b4 d1, p87 b3 p, z93 b2] (BdE p bd18 A18 c18) rfl rfl rfl (cSetCell p (1 + 80) bd18 A18 c18 ok18 (by omega) 336 d18) ?_
 rintro t50 S50 ⟨d19, bd19, A19, c19, e19, ok19, rfl, rfl⟩
 refine AWL.nil (kpH (tcB 0 rfl rfl pinV (tcB 1 rfl rfl pinV (tc0))) ?_)
 refine AWH.done (by kernel_rfl) ?_
 refine rs (yl ag_87 1 ?_)
 refine ym ?_
 refine Y1 (Yv.addN_i64 rfl eV eV (fun hg => by omega)) ?_
 refine ym ?_
 refine AWL.buildSlice1 rfl rfl (B rfl) rfl el_35 rfl (evsC (E rfl rfl) evs0) nB rfl rfl ?_
 refine cE ce_33 [i3 b4 d1, p87 b3 p, z93 b2] (BdE p bd19 A19 c19) rfl rfl rfl (cCall p (1 + 83) bd19 A19 c19 ok19 (by omega) ((1 + 10)) [d15]) ?_
 rintro t56 S56 ⟨d20, bd20, A20, c20, e20, ok20, rfl, rfl⟩
 refine nl ?_
 refine rs (yl ag_87 1 ?_)
 refine cE ce_87 [i3 b4 d1, p87 b3 p, z93 b2] (BdE p bd20 A20 c20) rfl rfl rfl (cCell p (1 + 85) bd20 A20 c20 ok20 (by omega) 280) ?_
 rintro t58 S58 ⟨d21, bd21, A21, c21, e21, ok21, rfl, rfl⟩
 refine ya ?_
 refine rs (yl ag_87 1 ?_)
 refine cE ce_87 [i3 b4 d1, p87 b3 p, z93 b2] (BdE p bd21 A21 c21) rfl rfl rfl (cCell p (1 + 89) bd21 A21 c21 ok21 (by omega) 304) ?_
 rintro t60 S60 ⟨d22, bd22, A22, c22, e22, ok22, rfl, rfl⟩
 refine ya ?_
 refine rs (yl ag_87 1 ?_)
 refine ym ?_
 refine cE ce_76 [i3 b4 d1, p87 b3 p, z93 b2] (BdE p bd22 A22 c22) rfl rfl rfl (cSetCell p (1 + 93) bd22 A22 c22 ok22 (by omega) 280 d22) ?_
 rintro t63 S63 ⟨d23, bd23, A23, c23, e23, ok23, rfl, rfl⟩
 refine nl ?_
 refine rs (yl ag_87 1 ?_)
 refine ym ?_
 refine cE ce_76 [i3 b4 d1, p87 b3 p, z93 b2] (BdE p bd23 A23 c23) rfl rfl rfl (cSetCell p (1 + 96) bd23 A23 c23 ok23 (by omega) 304 d21) ?_
 rintro t66 S66 ⟨d24, bd24, A24, c24, e24, ok24, rfl, rfl⟩
 refine nl ?_
 refine AW.rseqH (HeldCs [(b4, 0, Value.int .i64 (d1)), (b3, 0, Value.pointer (some ⟨p, 0, none⟩))]) rfl (tells_cs (tcB 0 rfl rfl pinV (tcB 1 rfl rfl pinV (tc0)))) ?_
 refine T2 (i := 0) rfl (heldB 1 rfl ag_87 (E rfl rfl) rfl (fun _ _ => .v _)) ?_
 refine AWH.one (i := 1) (by kernel_rfl) rfl ?_
 refine yl ag_87 1 ?_
 refine AWL.nil (kpH (tcB 0 rfl rfl pinV (tcB 1 rfl rfl pinV (tc0))) ?_)
 refine AWH.one (i := 2) (by kernel_rfl) rfl ?_
 refine cE ce_87 [i3 b4 d1, p87 b3 p, z93 b2] (BdE p bd24 A24 c24) rfl rfl rfl (cCell p (1 + 99) bd24 A24 c24 ok24 (by omega) 328) ?_
 rintro t69 S69 ⟨d25, bd25, A25, c25, e25, ok25, rfl, rfl⟩
 refine AWL.nil (kpH (tcB 0 rfl rfl pinV (tcB 1 rfl rfl pinV (tc0))) ?_)
 refine AWH.one (i := 3) (by kernel_rfl) rfl ?_
 refine cE ce_76 [i3 b4 d1, p87 b3 p, z93 b2] (BdE p bd25 A25 c25) rfl rfl rfl (cSetCell p (1 + 103) bd25 A25 c25 ok25 (by omega) 288 d25) ?_
 rintro t70 S70 ⟨d26, bd26, A26, c26, e26, ok26, rfl, rfl⟩
 refine AWL.nil (kpH (tcB 0 rfl rfl pinV (tcB 1 rfl rfl pinV (tc0))) ?_)
 refine AWH.done (by kernel_rfl) ?_
 refine AW.rseqH (HeldCs [(b4, 0, Value.int .i64 (d1)), (b3, 0, Value.pointer (some ⟨p, 0, none⟩))]) rfl (tells_cs (tcB 0 rfl rfl pinV (tcB 1 rfl rfl pinV (tc0)))) ?_
 refine T2 (i := 0) rfl (heldB 1 rfl ag_87 (E rfl rfl) rfl (fun _ _ => .v _)) ?_
 refine T2 (i := 1) rfl (heldB 1 rfl ag_87 (E rfl rfl) rfl (fun _ _ => .v _)) ?_
 refine T2 (i := 2) rfl (heldAll (freeMove rfl (E rfl rfl))) ?_
 refine AWH.one (i := 3) (by kernel_rfl) rfl ?_
 refine yl ag_87 1 ?_
 refine AWL.nil (kpH (tcB 0 rfl rfl pinV (tcB 1 rfl rfl pinV (tc0))) ?_)
 refine AWH.one (i := 4) (by kernel_rfl) rfl ?_
 refine cE ce_87 [i3 b4 d1, p87 b3 p, z93 b2] (BdE p bd26 A26 c26) rfl rfl rfl (cCell p (1 + 106) bd26 A26 c26 ok26 (by omega) 376) ?_
 rintro t75 S75 ⟨d27, bd27, A27, c27, e27, ok27, rfl, rfl⟩
 refine AWL.nil (kpH (tcB 0 rfl rfl pinV (tcB 1 rfl rfl pinV (tc0))) ?_)
 refine AWH.one (i := 5) (by kernel_rfl) rfl ?_
 refine cE ce_83 [i3 b4 d1, p87 b3 p, z93 b2] (BdE p bd27 A27 c27) rfl rfl rfl (cAdd p (1 + 110) bd27 A27 c27 ok27 (by omega) d22 d27) ?_
 rintro t76 S76 ⟨d28, bd28, A28, c28, e28, ok28, rfl, rfl⟩
 refine AWL.nil (kpH (tcB 0 rfl rfl pinV (tcB 1 rfl rfl pinV (tc0))) ?_)
 refine AWH.one (i := 6) (by kernel_rfl) rfl ?_
 refine cE ce_76 [i3 b4 d1, p87 b3 p, z93 b2] (BdE p bd28 A28 c28) rfl rfl rfl (cSetCell p (1 + 112) bd28 A28 c28 ok28 (by omega) 296 d28) ?_
 rintro t77 S77 ⟨d29, bd29, A29, c29, e29, ok29, rfl, rfl⟩
 refine AWL.nil (kpH (tcB 0 rfl rfl pinV (tcB 1 rfl rfl pinV (tc0))) ?_)
 refine AWH.done (by kernel_rfl) ?_
 refine rs (yl ag_87 1 ?_)
 refine cE ce_95 [i3 b4 d1, p87 b3 p, z93 b2] (BdE p bd29 A29 c29) rfl rfl rfl (cEmptied p (1 + 115) bd29 A29 c29 ok29 (by omega) ) ?_
 rintro t79 S79 ⟨d30, bd30, A30, c30, e30, ok30, rfl, rfl⟩
 refine nl ?_
 refine rs (yl ag_87 1 ?_)
 refine cE ce_34 [i3 b4 d1, p87 b3 p, z93 b2] (BdE p bd30 A30 c30) rfl rfl rfl (cRetC p (1 + 122) bd30 A30 c30 ok30 (by omega) 1) ?_
 rintro t81 S81 ⟨d31, bd31, A31, c31, e31, ok31, rfl, rfl⟩
 refine nl ?_
 refine rs (yl ag_87 1 ?_)
 refine cE ce_35 [i3 b4 d1, p87 b3 p, z93 b2] (BdE p bd31 A31 c31) rfl rfl rfl (cDone p bd31 A31 c31) ?_
 rintro t83 S83 ⟨rfl, rfl⟩
 refine AWL.storeBox (i := 2) rfl rfl rfl ag_93 rfl (E rfl rfl) (E rfl rfl) rfl rfl nB (nl ?_)
 refine AW.ret (retI (.cellA (i := 2) rfl ag_93 rfl rfl rfl .nil) ?_)
 show _ = T.agg (fnCells (fnB (mMajorFn (bd0 [103, 99, 46, 109, 97, 106, 111, 114] 0)).2))
 rw [show mMajorFn (bd0 [103, 99, 46, 109, 97, 106, 111, 114] 0) = ((), bd31) from (bq e1).trans ((bq e2).trans ((bq e3).trans ((bq e4).trans ((bq e5).trans ((bq e6).trans ((bq e7).trans ((bq e8).trans ((bq e9).trans ((bq e10).trans ((bq e11).trans ((bq e12).trans ((bq e13).trans ((bq e14).trans ((bq e15).trans ((bq e16).trans ((bq e17).trans ((bq e18).trans ((bq e19).trans ((bq e20).trans ((bq e21).trans ((bq e22).trans ((bq e23).trans ((bq e24).trans ((bq e25).trans ((bq e26).trans ((bq e27).trans ((bq e28).trans ((bq e29).trans ((bq e30).trans (e31))))))))))))))))))))))))))))))]
 rfl

theorem cMajorFn : ACalls Tryz.prog 57 [zi 1] [] (fun t S => t = .agg (fnCells fMajorFn) ∧ S = []) := (cMajorFn_).less fun t S' h => ⟨[], List.nil_sublist _, h, rfl⟩
def mMarkFn : BM Unit :=
 bnd (mCell (280)) fun d1 =>
 bnd (mSub (0) (d1)) fun d2 =>
 bnd (mCell (376)) fun d3 =>
 bnd (mThen (5) (d2) (d3) (mMark1 (0))) fun _ =>
 mRetC (1)
def fMarkFn : Fn := fnB (mMarkFn (bd0 [103, 99, 46, 109, 97, 114, 107] 1)).2
set_option maxHeartbeats 16000000 in
theorem cMarkFn_  :
    ACalls Tryz.prog 58 [] [] (fun t S => t = .agg (fnCells (fMarkFn))) := by
 refine ACalls.intro Tryz.func58 rfl Tryz.ntmps58 nB rfl fun X w0 => ?_
 refine rs ?_
 refine AWL.allocOp rfl rfl (B rfl) rfl zc_93 (fun b0 => ?_)
 refine AWL.perm (List.perm_append_singleton _ _).symm (nl ?_)
 refine rs ?_
 refine cE ce_32 [z93 b0] [] rfl rfl rfl (cNew [103, 99, 46, 109, 97, 114, 107] 1) ?_
 rintro t3 S3 ⟨p, rfl, rfl⟩
 have ok0 : BdOk 1 (bd0 [103, 99, 46, 109, 97, 114, 107] 1) := ⟨by decide, by decide, by decide, by decide, by decide, by decide, by decide⟩
 refine AWL.allocOp rfl rfl (B rfl) rfl zc_87 (fun b1 => ?_)
 refine AWL.perm (List.perm_append_singleton _ _).symm ?_
 refine AWL.storeBox (i := 0) rfl rfl rfl ag_87 rfl (E rfl rfl) (E rfl rfl) rfl rfl nB (nl ?_)
 refine rs ?_
 refine AWL.allocOp rfl rfl (B rfl) rfl zc_3 (fun b2 => ?_)
 refine AWL.perm (List.perm_append_singleton _ _).symm ?_
 refine AWL.storeBox (i := 0) rfl rfl rfl ag_3 rfl (E rfl rfl) (E rfl rfl) rfl rfl nB (nl ?_)
 refine AW.rseqH (HeldCs [(b2, 0, Value.int .i64 (0)), (b1, 0, Value.pointer (some ⟨p, 0, none⟩))]) rfl (tells_cs (tcB 0 rfl rfl pinV (tcB 1 rfl rfl pinV (tc0)))) ?_
 refine T2 (i := 0) rfl (heldB 1 rfl ag_87 (E rfl rfl) rfl (fun _ _ => .v _)) ?_
 refine T2 (i := 1) rfl (heldB 1 rfl ag_87 (E rfl rfl) rfl (fun _ _ => .v _)) ?_
 refine T2 (i := 2) rfl (heldB 0 rfl ag_3 (E rfl rfl) rfl (fun _ _ => .v _)) ?_
 refine T2 (i := 3) rfl (heldB 1 rfl ag_87 (E rfl rfl) rfl (fun _ _ => .v _)) ?_
 refine T2 (i := 6) rfl (heldB 1 rfl ag_87 (E rfl rfl) rfl (fun _ _ => .v _)) ?_
 refine T2 (i := 8) rfl (heldAll (freeMk rfl evs0 rfl (evsC (E rfl rfl) (evsC (E rfl rfl) evs0)) rfl)) ?_
 refine AWH.one (i := 4) (by kernel_rfl) rfl ?_
 refine cE ce_87 [i3 b2 0, p87 b1 p, z93 b0] (BdE p (bd0 [103, 99, 46, 109, 97, 114, 107] 1) none 0) rfl rfl rfl (cCell p 1 (bd0 [103, 99, 46, 109, 97, 114, 107] 1) none 0 ok0 (by omega) 280) ?_
 rintro t8 S8 ⟨d1, bd1, A1, c1, e1, ok1, rfl, rfl⟩
 refine AWL.nil (kpH (tcB 0 rfl rfl pinV (tcB 1 rfl rfl pinV (tc0))) ?_)
 refine AWH.one (i := 5) (by kernel_rfl) rfl ?_
 refine cE ce_86 [i3 b2 0, p87 b1 p, z93 b0] (BdE p bd1 A1 c1) rfl rfl rfl (cSub p (1 + 4) bd1 A1 c1 ok1 (by omega) 0 d1) ?_
 rintro t9 S9 ⟨d2, bd2, A2, c2, e2, ok2, rfl, rfl⟩
 refine AWL.nil (kpH (tcB 0 rfl rfl pinV (tcB 1 rfl rfl pinV (tc0))) ?_)
 refine AWH.one (i := 7) (by kernel_rfl) rfl ?_
 refine cE ce_87 [i3 b2 0, p87 b1 p, z93 b0] (BdE p bd2 A2 c2) rfl rfl rfl (cCell p (1 + 6) bd2 A2 c2 ok2 (by omega) 376) ?_
 rintro t11 S11 ⟨d3, bd3, A3, c3, e3, ok3, rfl, rfl⟩
 refine AWL.nil (kpH (tcB 0 rfl rfl pinV (tcB 1 rfl rfl pinV (tc0))) ?_)
 refine AWH.one (i := 9) (by kernel_rfl) rfl ?_
 refine cA ce_80 rfl rfl rfl (cThen p (1 + 10) 40 bd3 A3 c3 ok3 (by omega) 5 d2 d3 101 #[.pointer (some ⟨b1, 0, none⟩), .pointer (some ⟨b2, 0, none⟩)] [i3 b2 0, p87 b1 p, z93 b0] (mMark1 0) ce_101 (fun bd9 A9 c9 ok9 => cMark1 p _ bd9 A9 c9 ok9 (by omega) [i3 b2 0, p87 b1 p, z93 b0] 1 b1 rfl 0 b2 0 rfl)) ?_
 rintro t13 S13 ⟨rfl, bd4, A4, c4, e4, ok4, rfl⟩
 refine AWL.nil (kpH (tcB 0 rfl rfl pinV (tcB 1 rfl rfl pinV (tc0))) ?_)
 refine AWH.done (by kernel_rfl) ?_
 refine rs (yl ag_87 1 ?_)
 refine cE ce_34 [i3 b2 0, p87 b1 p, z93 b0] (BdE p bd4 A4 c4) rfl rfl rfl (cRetC p (1 + 53) bd4 A4 c4 ok4 (by omega) 1) ?_
 rintro t15 S15 ⟨d5, bd5, A5, c5, e5, ok5, rfl, rfl⟩
 refine nl ?_
 refine rs (yl ag_87 1 ?_)
 refine cE ce_35 [i3 b2 0, p87 b1 p, z93 b0] (BdE p bd5 A5 c5) rfl rfl rfl (cDone p bd5 A5 c5) ?_
 rintro t17 S17 ⟨rfl, rfl⟩
 refine AWL.storeBox (i := 2) rfl rfl rfl ag_93 rfl (E rfl rfl) (E rfl rfl) rfl rfl nB (nl ?_)
 refine AW.ret (retI (.cellA (i := 2) rfl ag_93 rfl rfl rfl .nil) ?_)
 show _ = T.agg (fnCells (fnB (mMarkFn (bd0 [103, 99, 46, 109, 97, 114, 107] 1)).2))
 rw [show mMarkFn (bd0 [103, 99, 46, 109, 97, 114, 107] 1) = ((), bd5) from (bq e1).trans ((bq e2).trans ((bq e3).trans ((bq e4).trans (e5))))]
 rfl

theorem cMarkFn : ACalls Tryz.prog 58 [] [] (fun t S => t = .agg (fnCells fMarkFn) ∧ S = []) := (cMarkFn_).less fun t S' h => ⟨[], List.nil_sublist _, h, rfl⟩
def mCopiedFn : BM Unit :=
 bnd (mGet (0) (0)) fun d1 =>
 bnd (mAnd (d1) (1)) fun d2 =>
 bnd (mThenC (1) (d2) (0) (mCopied1 (d1))) fun _ =>
 bnd (mCall ((1 + 6)) [d1]) fun d4 =>
 bnd (mCell (328)) fun d5 =>
 bnd (mAdd (d5) (d4)) fun d6 =>
 bnd (mCell (336)) fun d7 =>
 bnd (mThen (5) (d7) (d6) (mCopied2 )) fun _ =>
 bnd (mSetCell (328) (d6)) fun _ =>
 bnd (mC (0)) fun d10 =>
 bnd (mWhile (3) (mCopied3 (d10) (d4)) (mCopied4 (d5) (d10) (0))) fun _ =>
 bnd (mGet (d5) (0)) fun d12 =>
 bnd (mAnd (d12) ((-33))) fun d13 =>
 bnd (mSave (d5) (0) (d13)) fun _ =>
 bnd (mSave (0) (0) (d5)) fun _ =>
 mRet (d5)
def fCopiedFn : Fn := fnB (mCopiedFn (bd0 [103, 99, 46, 99, 111, 112, 105, 101, 100] 1)).2
set_option maxHeartbeats 16000000 in
theorem cCopiedFn_  :
    ACalls Tryz.prog 61 [zi 1] [] (fun t S => t = .agg (fnCells (fCopiedFn))) := by
 refine ACalls.intro Tryz.func61 rfl Tryz.ntmps61 nB rfl fun X w0 => ?_
 refine rs ?_
 refine AWL.boxOp rfl rfl (B rfl) rfl (E rfl rfl) rfl (fun b1 => ?_)
 refine AWL.perm (List.perm_append_singleton _ _).symm ?_
 refine AWL.allocOp rfl rfl (B rfl) rfl zc_93 (fun b2 => ?_)
 refine AWL.perm (List.perm_append_singleton _ _).symm (nl ?_)
 refine rs ?_
 refine cE ce_32 [z93 b2, i3 b1 1] [] rfl rfl rfl (cNew [103, 99, 46, 99, 111, 112, 105, 101, 100] 1) ?_
 rintro t10 S10 ⟨p, rfl, rfl⟩
 have ok0 : BdOk 1 (bd0 [103, 99, 46, 99, 111, 112, 105, 101, 100] 1) := ⟨by decide, by decide, by decide, by decide, by decide, by decide, by decide⟩
 refine AWL.allocOp rfl rfl (B rfl) rfl zc_87 (fun b3 => ?_)
 refine AWL.perm (List.perm_append_singleton _ _).symm ?_
 refine AWL.storeBox (i := 0) rfl rfl rfl ag_87 rfl (E rfl rfl) (E rfl rfl) rfl rfl nB (nl ?_)
 refine rs ?_
 refine AWL.allocOp rfl rfl (B rfl) rfl zc_3 (fun b4 => ?_)
 refine AWL.perm (List.perm_append_singleton _ _).symm ?_
 refine AWL.storeBox (i := 0) rfl rfl rfl ag_3 rfl (E rfl rfl) (E rfl rfl) rfl rfl nB (nl ?_)
 refine rs (yl ag_87 1 ?_)
 refine yl ag_3 0 ?_
 refine cE ce_99 [i3 b4 0, p87 b3 p, z93 b2, i3 b1 1] (BdE p (bd0 [103, 99, 46, 99, 111, 112, 105, 101, 100] 1) none 0) rfl rfl rfl (cGet p 1 (bd0 [103, 99, 46, 99, 111, 112, 105, 101, 100] 1) none 0 ok0 (by omega) 0 0) ?_
 rintro t13 S13 ⟨d1, bd1, A1, c1, e1, ok1, rfl, rfl⟩
 refine AWL.allocOp rfl rfl (B rfl) rfl zc_3 (fun b5 => ?_)
 refine AWL.perm (List.perm_append_singleton _ _).symm ?_
 refine AWL.storeBox (i := 0) rfl rfl rfl ag_3 rfl (E rfl rfl) (E rfl rfl) rfl rfl nB (nl ?_)
 refine AW.rseqH (HeldCs [(b5, 0, Value.int .i64 (d1)), (b4, 0, Value.int .i64 (0)), (b3, 0, Value.pointer (some ⟨p, 0, none⟩)), (b1, 0, Value.int .i64 (1))]) rfl (tells_cs (tcB 0 rfl rfl pinV (tcB 1 rfl rfl pinV (tcB 2 rfl rfl pinV (tcB 4 rfl rfl pinV (tc0)))))) ?_
 refine T2 (i := 0) rfl (heldB 2 rfl ag_87 (E rfl rfl) rfl (fun _ _ => .v _)) ?_
 refine T2 (i := 1) rfl (heldB 2 rfl ag_87 (E rfl rfl) rfl (fun _ _ => .v _)) ?_
 refine T2 (i := 2) rfl (heldB 0 rfl ag_3 (E rfl rfl) rfl (fun _ _ => .v _)) ?_
 refine T2 (i := 4) rfl (heldAll (freeMk rfl evs0 rfl (evsC (E rfl rfl) (evsC (E rfl rfl) evs0)) rfl)) ?_
 refine AWH.one (i := 3) (by kernel_rfl) rfl ?_
 refine cE ce_100 [i3 b5 d1, i3 b4 0, p87 b3 p, z93 b2, i3 b1 1] (BdE p bd1 A1 c1) rfl rfl rfl (cAnd p (1 + 2) bd1 A1 c1 ok1 (by omega) d1 1) ?_
 rintro t17 S17 ⟨d2, bd2, A2, c2, e2, ok2, rfl, rfl⟩
 refine AWL.nil (kpH (tcB 0 rfl rfl pinV (tcB 1 rfl rfl pinV (tcB 2 rfl rfl pinV (tcB 4 rfl rfl pinV (tc0))))) ?_)
 refine AWH.one (i := 5) (by kernel_rfl) rfl ?_
 refine cA ce_102 rfl rfl rfl (cThenC p (1 + 6) 1 bd2 A2 c2 ok2 (by omega) 1 d2 0 108 #[.pointer (some ⟨b3, 0, none⟩), .pointer (some ⟨b5, 0, none⟩)] [i3 b5 d1, i3 b4 0, p87 b3 p, z93 b2, i3 b1 1] (mCopied1 d1) ce_108 (fun bd9 A9 c9 ok9 => cCopied1 p _ bd9 A9 c9 ok9 (by omega) [i3 b5 d1, i3 b4 0, p87 b3 p, z93 b2, i3 b1 1] 2 b3 rfl 0 b5 d1 rfl)) ?_
 rintro t19 S19 ⟨rfl, bd3, A3, c3, e3, ok3, rfl⟩
 refine AWL.nil (kpH (tcB 0 rfl rfl pinV (tcB 1 rfl rfl pinV (tcB 2 rfl rfl pinV (tcB 4 rfl rfl pinV (tc0))))) ?_)
 refine AWH.done (by kernel_rfl) ?_
 refine rs (yl ag_87 2 ?_)
 refine yl ag_3 4 ?_
 refine Y1 (Yv.addN_i64 rfl eV eV (fun hg => by omega)) ?_
 refine yl ag_3 0 ?_
 refine AWL.buildSlice1 rfl rfl (B rfl) rfl el_35 rfl (evsC (E rfl rfl) evs0) nB rfl rfl ?_
 refine cE ce_33 [i3 b5 d1, i3 b4 0, p87 b3 p, z93 b2, i3 b1 1] (BdE p bd3 A3 c3) rfl rfl rfl (cCall p (1 + 12) bd3 A3 c3 ok3 (by omega) ((1 + 6)) [d1]) ?_
 rintro t25 S25 ⟨d4, bd4, A4, c4, e4, ok4, rfl, rfl⟩
 refine AWL.allocOp rfl rfl (B rfl) rfl zc_3 (fun b6 => ?_)
 refine AWL.perm (List.perm_append_singleton _ _).symm ?_
 refine AWL.storeBox (i := 0) rfl rfl rfl ag_3 rfl (E rfl rfl) (E rfl rfl) rfl rfl nB (nl ?_)
 refine rs (yl ag_87 3 ?_)
 refine cE ce_87 [i3 b6 d4, i3 b5 d1, i3 b4 0, p87 b3 p, z93 b2, i3 b1 1] (BdE p bd4 A4 c4) rfl rfl rfl (cCell p (1 + 14) bd4 A4 c4 ok4 (by omega) 328) ?_
 rintro t27 S27 ⟨d5, bd5, A5, c5, e5, ok5, rfl, rfl⟩
 refine AWL.allocOp rfl rfl (B rfl) rfl zc_3 (fun b7 => ?_)
 refine AWL.perm (List.perm_append_singleton _ _).symm ?_
 refine AWL.storeBox (i := 0) rfl rfl rfl ag_3 rfl (E rfl rfl) (E rfl rfl) rfl rfl nB (nl ?_)
 refine rs (yl ag_87 4 ?_)
 refine yl ag_3 0 ?_
 refine yl ag_3 1 ?_
 refine cE ce_83 [i3 b7 d5, i3 b6 d4, i3 b5 d1, i3 b4 0, p87 b3 p, z93 b2, i3 b1 1] (BdE p bd5 A5 c5) rfl rfl rfl (cAdd p (1 + 18) bd5 A5 c5 ok5 (by omega) d5 d4) ?_
 rintro t31 S31 ⟨d6, bd6, A6, c6, e6, ok6, rfl, rfl⟩
 refine ya ?_
 refine AW.rseqH (HeldCs [(b7, 0, Value.int .i64 (d5)), (b6, 0, Value.int .i64 (d4)), (b5, 0, Value.int .i64 (d1)), (b4, 0, Value.int .i64 (0)), (b3, 0, Value.pointer (some ⟨p, 0, none⟩)), (b1, 0, Value.int .i64 (1))]) rfl (tells_cs (tcB 0 rfl rfl pinV (tcB 1 rfl rfl pinV (tcB 2 rfl rfl pinV (tcB 3 rfl rfl pinV (tcB 4 rfl rfl pinV (tcB 6 rfl rfl pinV (tc0)))))))) ?_
 refine T2 (i := 0) rfl (heldB 4 rfl ag_87 (E rfl rfl) rfl (fun _ _ => .v _)) ?_
 refine T2 (i := 1) rfl (heldB 4 rfl ag_87 (E rfl rfl) rfl (fun _ _ => .v _)) ?_
 refine T2 (i := 3) rfl (heldAll (freeMove rfl (E rfl rfl))) ?_
 refine T2 (i := 4) rfl (heldAll (freeMk rfl evs0 rfl (evsC (E rfl rfl) (evsC (E rfl rfl) evs0)) rfl)) ?_
 refine AWH.one (i := 2) (by kernel_rfl) rfl ?_
 refine cE ce_87 [i3 b7 d5, i3 b6 d4, i3 b5 d1, i3 b4 0, p87 b3 p, z93 b2, i3 b1 1] (BdE p bd6 A6 c6) rfl rfl rfl (cCell p (1 + 20) bd6 A6 c6 ok6 (by omega) 336) ?_
 rintro t34 S34 ⟨d7, bd7, A7, c7, e7, ok7, rfl, rfl⟩
 refine AWL.nil (kpH (tcB 0 rfl rfl pinV (tcB 1 rfl rfl pinV (tcB 2 rfl rfl pinV (tcB 3 rfl rfl pinV (tcB 4 rfl rfl pinV (tcB 6 rfl rfl pinV (tc0))))))) ?_)
 refine AWH.one (i := 5) (by kernel_rfl) rfl ?_
 refine cA ce_80 rfl rfl rfl (cThen p (1 + 24) 1 bd7 A7 c7 ok7 (by omega) 5 d7 d6 109 #[.pointer (some ⟨b3, 0, none⟩), .pointer (some ⟨b1, 0, none⟩)] [i3 b7 d5, i3 b6 d4, i3 b5 d1, i3 b4 0, p87 b3 p, z93 b2, i3 b1 1] (mCopied2 ) ce_109 (fun bd9 A9 c9 ok9 => cCopied2 p _ bd9 A9 c9 ok9 (by omega) [i3 b7 d5, i3 b6 d4, i3 b5 d1, i3 b4 0, p87 b3 p, z93 b2, i3 b1 1] 4 b3 rfl 6 b1 rfl)) ?_
 rintro t37 S37 ⟨rfl, bd8, A8, c8, e8, ok8, rfl⟩
 refine AWL.nil (kpH (tcB 0 rfl rfl pinV (tcB 1 rfl rfl pinV (tcB 2 rfl rfl pinV (tcB 3 rfl rfl pinV (tcB 4 rfl rfl pinV (tcB 6 rfl rfl pinV (tc0))))))) ?_)
 refine AWH.done (by kernel_rfl) ?_
 refine rs (yl ag_87 4 ?_)
 refine ym ?_
 refine cE ce_76 [i3 b7 d5, i3 b6 d4, i3 b5 d1, i3 b4 0, p87 b3 p, z93 b2, i3 b1 1] (BdE p bd8 A8 c8) rfl rfl rfl (cSetCell p (1 + 28) bd8 A8 c8 ok8 (by omega) 328 d6) ?_
 rintro t40 S40 ⟨d9, bd9, A9, c9, e9, ok9, rfl, rfl⟩
 refine nl ?_
 refine rs (yl ag_87 4 ?_)
 refine cE ce_53 [i3 b7 d5, i3 b6 d4, i3 b5 d1, i3 b4 0, p87 b3 p, z93 b2, i3 b1 1] (BdE p bd9 A9 c9) rfl rfl rfl (cC p (1 + 31) bd9 A9 c9 ok9 (by omega) 0) ?_
 rintro t42 S42 ⟨d10, bd10, A10, c10, e10, ok10, rfl, rfl⟩
 refine AWL.allocOp rfl rfl (B rfl) rfl zc_3 (fun b9 => ?_)
 refine AWL.perm (List.perm_append_singleton _ _).symm ?_
 refine AWL.storeBox (i := 0) rfl rfl rfl ag_3 rfl (E rfl rfl) (E rfl rfl) rfl rfl nB (nl ?_)
 refine rs (yl ag_87 5 ?_)
 refine Y1 (Yv.makeFunc rfl evs0 rfl (evsC eV (evsC eV evs0)) rfl) ?_
 refine Y1 (Yv.makeFunc rfl evs0 rfl (evsC eV (evsC eV (evsC eV (evsC eV evs0)))) rfl) ?_
 refine cA ce_96 rfl rfl rfl (cWhile p (1 + 33) 10 0 bd10 A10 c10 ok10 (by omega) 3 110 111 #[.pointer (some ⟨b9, 0, none⟩), .pointer (some ⟨b6, 0, none⟩)] #[.pointer (some ⟨b3, 0, none⟩), .pointer (some ⟨b7, 0, none⟩), .pointer (some ⟨b9, 0, none⟩), .pointer (some ⟨b4, 0, none⟩)] [i3 b9 d10, i3 b7 d5, i3 b6 d4, i3 b5 d1, i3 b4 0, p87 b3 p, z93 b2, i3 b1 1] (mCopied3 d10 d4) (mCopied4 d5 d10 0) ce_110 ce_111 (fun bd9 A9 c9 ok9 => cCopied3 p _ bd9 A9 c9 ok9 (by omega) [i3 b9 d10, i3 b7 d5, i3 b6 d4, i3 b5 d1, i3 b4 0, p87 b3 p, z93 b2, i3 b1 1] 0 b9 d10 rfl 2 b6 d4 rfl) (fun bd9 A9 c9 ok9 => cCopied4 p _ bd9 A9 c9 ok9 (by omega) [i3 b9 d10, i3 b7 d5, i3 b6 d4, i3 b5 d1, i3 b4 0, p87 b3 p, z93 b2, i3 b1 1] 5 b3 rfl 1 b7 d5 rfl 0 b9 d10 rfl 4 b4 0 rfl)) ?_
 rintro t46 S46 ⟨rfl, bd11, A11, c11, e11, ok11, rfl⟩
 refine nl ?_
 refine AW.rseqH (HeldCs [(b9, 0, Value.int .i64 (d10)), (b7, 0, Value.int .i64 (d5)), (b6, 0, Value.int .i64 (d4)), (b5, 0, Value.int .i64 (d1)), (b4, 0, Value.int .i64 (0)), (b3, 0, Value.pointer (some ⟨p, 0, none⟩)), (b1, 0, Value.int .i64 (1))]) rfl (tells_cs (tcB 0 rfl rfl pinV (tcB 1 rfl rfl pinV (tcB 2 rfl rfl pinV (tcB 3 rfl rfl pinV (tcB 4 rfl rfl pinV (tcB 5 rfl rfl pinV (tcB 7 rfl rfl pinV (tc0))))))))) ?_
 refine T2 (i := 0) rfl (heldB 5 rfl ag_87 (E rfl rfl) rfl (fun _ _ => .v _)) ?_
 refine T2 (i := 1) rfl (heldB 1 rfl ag_3 (E rfl rfl) rfl (fun _ _ => .v _)) ?_
 refine T2 (i := 2) rfl (heldB 5 rfl ag_87 (E rfl rfl) rfl (fun _ _ => .v _)) ?_
 refine T2 (i := 3) rfl (heldB 5 rfl ag_87 (E rfl rfl) rfl (fun _ _ => .v _)) ?_
 refine AWH.one (i := 4) (by kernel_rfl) rfl ?_
 refine yl ag_3 1 ?_
 refine AWL.nil (kpH (tcB 0 rfl rfl pinV (tcB 1 rfl rfl pinV (tcB 2 rfl rfl pinV (tcB 3 rfl rfl pinV (tcB 4 rfl rfl pinV (tcB 5 rfl rfl pinV (tcB 7 rfl rfl pinV (tc0)))))))) ?_)
 refine AWH.one (i := 5) (by kernel_rfl) rfl ?_
 refine cE ce_99 [i3 b9 d10, i3 b7 d5, i3 b6 d4, i3 b5 d1, i3 b4 0, p87 b3 p, z93 b2, i3 b1 1] (BdE p bd11 A11 c11) rfl rfl rfl (cGet p (1 + 49) bd11 A11 c11 ok11 (by omega) d5 0) ?_
 rintro t52 S52 ⟨d12, bd12, A12, c12, e12, ok12, rfl, rfl⟩
 refine AWL.nil (kpH (tcB 0 rfl rfl pinV (tcB 1 rfl rfl pinV (tcB 2 rfl rfl pinV (tcB 3 rfl rfl pinV (tcB 4 rfl rfl pinV (tcB 5 rfl rfl pinV (tcB 7 rfl rfl pinV (tc0)))))))) ?_)
 refine AWH.one (i := 6) (by kernel_rfl) rfl ?_
 refine cE ce_100 [i3 b9 d10, i3 b7 d5, i3 b6 d4, i3 b5 d1, i3 b4 0, p87 b3 p, z93 b2, i3 b1 1] (BdE p bd12 A12 c12) rfl rfl rfl (cAnd p (1 + 51) bd12 A12 c12 ok12 (by omega) d12 ((-33))) ?_
 rintro t53 S53 ⟨d13, bd13, A13, c13, e13, ok13, rfl, rfl⟩
 refine AWL.nil (kpH (tcB 0 rfl rfl pinV (tcB 1 rfl rfl pinV (tcB 2 rfl rfl pinV (tcB 3 rfl rfl pinV (tcB 4 rfl rfl pinV (tcB 5 rfl rfl pinV (tcB 7 rfl rfl pinV (tc0)))))))) ?_)
 refine AWH.one (i := 7) (by kernel_rfl) rfl ?_
 refine cE ce_92 [i3 b9 d10, i3 b7 d5, i3 b6 d4, i3 b5 d1, i3 b4 0, p87 b3 p, z93 b2, i3 b1 1] (BdE p bd13 A13 c13) rfl rfl rfl (cSave p (1 + 55) bd13 A13 c13 ok13 (by omega) d5 0 d13) ?_
 rintro t54 S54 ⟨d14, bd14, A14, c14, e14, ok14, rfl, rfl⟩
 refine AWL.nil (kpH (tcB 0 rfl rfl pinV (tcB 1 rfl rfl pinV (tcB 2 rfl rfl pinV (tcB 3 rfl rfl pinV (tcB 4 rfl rfl pinV (tcB 5 rfl rfl pinV (tcB 7 rfl rfl pinV (tc0)))))))) ?_)
 refine AWH.done (by kernel_rfl) ?_
 refine rs (yl ag_87 5 ?_)
 refine yl ag_3 4 ?_
 refine yl ag_3 1 ?_
 refine cE ce_92 [i3 b9 d10, i3 b7 d5, i3 b6 d4, i3 b5 d1, i3 b4 0, p87 b3 p, z93 b2, i3 b1 1] (BdE p bd14 A14 c14) rfl rfl rfl (cSave p (1 + 56) bd14 A14 c14 ok14 (by omega) 0 0 d5) ?_
 rintro t58 S58 ⟨d15, bd15, A15, c15, e15, ok15, rfl, rfl⟩
 refine nl ?_
 refine rs (yl ag_87 5 ?_)
 refine yl ag_3 1 ?_
 refine cE ce_52 [i3 b9 d10, i3 b7 d5, i3 b6 d4, i3 b5 d1, i3 b4 0, p87 b3 p, z93 b2, i3 b1 1] (BdE p bd15 A15 c15) rfl rfl rfl (cRet p (1 + 57) bd15 A15 c15 ok15 (by omega) d5) ?_
 rintro t61 S61 ⟨d16, bd16, A16, c16, e16, ok16, rfl, rfl⟩
 refine nl ?_
 refine rs (yl ag_87 5 ?_)
 refine cE ce_35 [i3 b9 d10, i3 b7 d5, i3 b6 d4, i3 b5 d1, i3 b4 0, p87 b3 p, z93 b2, i3 b1 1] (BdE p bd16 A16 c16) rfl rfl rfl (cDone p bd16 A16 c16) ?_
 rintro t63 S63 ⟨rfl, rfl⟩
 refine AWL.storeBox (i := 6) rfl rfl rfl ag_93 rfl (E rfl rfl) (E rfl rfl) rfl rfl nB (nl ?_)
 refine AW.ret (retI (.cellA (i := 6) rfl ag_93 rfl rfl rfl .nil) ?_)
 show _ = T.agg (fnCells (fnB (mCopiedFn (bd0 [103, 99, 46, 99, 111, 112, 105, 101, 100] 1)).2))
 rw [show mCopiedFn (bd0 [103, 99, 46, 99, 111, 112, 105, 101, 100] 1) = ((), bd16) from (bq e1).trans ((bq e2).trans ((bq e3).trans ((bq e4).trans ((bq e5).trans ((bq e6).trans ((bq e7).trans ((bq e8).trans ((bq e9).trans ((bq e10).trans ((bq e11).trans ((bq e12).trans ((bq e13).trans ((bq e14).trans ((bq e15).trans (e16)))))))))))))))]
 rfl

theorem cCopiedFn : ACalls Tryz.prog 61 [zi 1] [] (fun t S => t = .agg (fnCells fCopiedFn) ∧ S = []) := (cCopiedFn_).less fun t S' h => ⟨[], List.nil_sublist _, h, rfl⟩
def mForwardFn : BM Unit :=
 bnd (mAnd (0) (1)) fun d1 =>
 bnd (mThenC (2) (d1) (0) (mForward1 (0))) fun _ =>
 bnd (mCell (344)) fun d3 =>
 bnd (mSub (0) (d3)) fun d4 =>
 bnd (mCell (352)) fun d5 =>
 bnd (mThen (5) (d4) (d5) (mForward2 (0))) fun _ =>
 bnd (mCell (360)) fun d7 =>
 bnd (mSub (0) (d7)) fun d8 =>
 bnd (mCell (368)) fun d9 =>
 bnd (mThen (5) (d8) (d9) (mForward3 (0))) fun _ =>
 mRet (0)
def fForwardFn : Fn := fnB (mForwardFn (bd0 [103, 99, 46, 102, 111, 114, 119, 97, 114, 100] 1)).2
set_option maxHeartbeats 16000000 in
theorem cForwardFn_  :
    ACalls Tryz.prog 62 [zi 1] [] (fun t S => t = .agg (fnCells (fForwardFn))) := by
 refine ACalls.intro Tryz.func62 rfl Tryz.ntmps62 nB rfl fun X w0 => ?_
 refine rs ?_
 refine AWL.boxOp rfl rfl (B rfl) rfl (E rfl rfl) rfl (fun b1 => ?_)
 refine AWL.perm (List.perm_append_singleton _ _).symm ?_
 refine AWL.allocOp rfl rfl (B rfl) rfl zc_93 (fun b2 => ?_)
 refine AWL.perm (List.perm_append_singleton _ _).symm (nl ?_)
 refine rs ?_
 refine cE ce_32 [z93 b2, i3 b1 1] [] rfl rfl rfl (cNew [103, 99, 46, 102, 111, 114, 119, 97, 114, 100] 1) ?_
 rintro t5 S5 ⟨p, rfl, rfl⟩
 have ok0 : BdOk 1 (bd0 [103, 99, 46, 102, 111, 114, 119, 97, 114, 100] 1) := ⟨by decide, by decide, by decide, by decide, by decide, by decide, by decide⟩
 refine AWL.allocOp rfl rfl (B rfl) rfl zc_87 (fun b3 => ?_)
 refine AWL.perm (List.perm_append_singleton _ _).symm ?_
 refine AWL.storeBox (i := 0) rfl rfl rfl ag_87 rfl (E rfl rfl) (E rfl rfl) rfl rfl nB (nl ?_)
 refine rs ?_
 refine AWL.allocOp rfl rfl (B rfl) rfl zc_3 (fun b4 => ?_)
 refine AWL.perm (List.perm_append_singleton _ _).symm ?_
 refine AWL.storeBox (i := 0) rfl rfl rfl ag_3 rfl (E rfl rfl) (E rfl rfl) rfl rfl nB (nl ?_)
 refine AW.rseqH (HeldCs [(b4, 0, Value.int .i64 (0)), (b3, 0, Value.pointer (some ⟨p, 0, none⟩)), (b1, 0, Value.int .i64 (1))]) rfl (tells_cs (tcB 0 rfl rfl pinV (tcB 1 rfl rfl pinV (tcB 3 rfl rfl pinV (tc0))))) ?_
 refine T2 (i := 0) rfl (heldB 1 rfl ag_87 (E rfl rfl) rfl (fun _ _ => .v _)) ?_
 refine T2 (i := 1) rfl (heldB 1 rfl ag_87 (E rfl rfl) rfl (fun _ _ => .v _)) ?_
 refine T2 (i := 2) rfl (heldB 0 rfl ag_3 (E rfl rfl) rfl (fun _ _ => .v _)) ?_
 refine T2 (i := 4) rfl (heldAll (freeMk rfl evs0 rfl (evsC (E rfl rfl) (evsC (E rfl rfl) evs0)) rfl)) ?_
 refine AWH.one (i := 3) (by kernel_rfl) rfl ?_
 refine cE ce_100 [i3 b4 0, p87 b3 p, z93 b2, i3 b1 1] (BdE p (bd0 [103, 99, 46, 102, 111, 114, 119, 97, 114, 100] 1) none 0) rfl rfl rfl (cAnd p 1 (bd0 [103, 99, 46, 102, 111, 114, 119, 97, 114, 100] 1) none 0 ok0 (by omega) 0 1) ?_
 rintro t9 S9 ⟨d1, bd1, A1, c1, e1, ok1, rfl, rfl⟩
 refine AWL.nil (kpH (tcB 0 rfl rfl pinV (tcB 1 rfl rfl pinV (tcB 3 rfl rfl pinV (tc0)))) ?_)
 refine AWH.one (i := 5) (by kernel_rfl) rfl ?_
 refine cA ce_102 rfl rfl rfl (cThenC p (1 + 4) 1 bd1 A1 c1 ok1 (by omega) 2 d1 0 112 #[.pointer (some ⟨b3, 0, none⟩), .pointer (some ⟨b4, 0, none⟩)] [i3 b4 0, p87 b3 p, z93 b2, i3 b1 1] (mForward1 0) ce_112 (fun bd9 A9 c9 ok9 => cForward1 p _ bd9 A9 c9 ok9 (by omega) [i3 b4 0, p87 b3 p, z93 b2, i3 b1 1] 1 b3 rfl 0 b4 0 rfl)) ?_
 rintro t11 S11 ⟨rfl, bd2, A2, c2, e2, ok2, rfl⟩
 refine AWL.nil (kpH (tcB 0 rfl rfl pinV (tcB 1 rfl rfl pinV (tcB 3 rfl rfl pinV (tc0)))) ?_)
 refine AWH.done (by kernel_rfl) ?_
 refine AW.rseqH (HeldCs [(b4, 0, Value.int .i64 (0)), (b3, 0, Value.pointer (some ⟨p, 0, none⟩)), (b1, 0, Value.int .i64 (1))]) rfl (tells_cs (tcB 0 rfl rfl pinV (tcB 1 rfl rfl pinV (tcB 3 rfl rfl pinV (tc0))))) ?_
 refine T2 (i := 0) rfl (heldB 1 rfl ag_87 (E rfl rfl) rfl (fun _ _ => .v _)) ?_
 refine T2 (i := 1) rfl (heldB 1 rfl ag_87 (E rfl rfl) rfl (fun _ _ => .v _)) ?_
 refine T2 (i := 2) rfl (heldB 0 rfl ag_3 (E rfl rfl) rfl (fun _ _ => .v _)) ?_
 refine T2 (i := 3) rfl (heldB 1 rfl ag_87 (E rfl rfl) rfl (fun _ _ => .v _)) ?_
 refine T2 (i := 6) rfl (heldB 1 rfl ag_87 (E rfl rfl) rfl (fun _ _ => .v _)) ?_
 refine T2 (i := 8) rfl (heldAll (freeMk rfl evs0 rfl (evsC (E rfl rfl) (evsC (E rfl rfl) (evsC (E rfl rfl) evs0))) rfl)) ?_
 refine AWH.one (i := 4) (by kernel_rfl) rfl ?_
 refine cE ce_87 [i3 b4 0, p87 b3 p, z93 b2, i3 b1 1] (BdE p bd2 A2 c2) rfl rfl rfl (cCell p (1 + 10) bd2 A2 c2 ok2 (by omega) 344) ?_
 rintro t16 S16 ⟨d3, bd3, A3, c3, e3, ok3, rfl, rfl⟩
 refine AWL.nil (kpH (tcB 0 rfl rfl pinV (tcB 1 rfl rfl pinV (tcB 3 rfl rfl pinV (tc0)))) ?_)
 refine AWH.one (i := 5) (by kernel_rfl) rfl ?_
 refine cE ce_86 [i3 b4 0, p87 b3 p, z93 b2, i3 b1 1] (BdE p bd3 A3 c3) rfl rfl rfl (cSub p (1 + 14) bd3 A3 c3 ok3 (by omega) 0 d3) ?_
 rintro t17 S17 ⟨d4, bd4, A4, c4, e4, ok4, rfl, rfl⟩
 refine AWL.nil (kpH (tcB 0 rfl rfl pinV (tcB 1 rfl rfl pinV (tcB 3 rfl rfl pinV (tc0)))) ?_)
 refine AWH.one (i := 7) (by kernel_rfl) rfl ?_
 refine cE ce_87 [i3 b4 0, p87 b3 p, z93 b2, i3 b1 1] (BdE p bd4 A4 c4) rfl rfl rfl (cCell p (1 + 16) bd4 A4 c4 ok4 (by omega) 352) ?_
 rintro t19 S19 ⟨d5, bd5, A5, c5, e5, ok5, rfl, rfl⟩
 refine AWL.nil (kpH (tcB 0 rfl rfl pinV (tcB 1 rfl rfl pinV (tcB 3 rfl rfl pinV (tc0)))) ?_)
 refine AWH.one (i := 9) (by kernel_rfl) rfl ?_
 refine cA ce_80 rfl rfl rfl (cThen p (1 + 20) 1 bd5 A5 c5 ok5 (by omega) 5 d4 d5 113 #[.pointer (some ⟨b3, 0, none⟩), .pointer (some ⟨b1, 0, none⟩), .pointer (some ⟨b4, 0, none⟩)] [i3 b4 0, p87 b3 p, z93 b2, i3 b1 1] (mForward2 0) ce_113 (fun bd9 A9 c9 ok9 => cForward2 p _ bd9 A9 c9 ok9 (by omega) [i3 b4 0, p87 b3 p, z93 b2, i3 b1 1] 1 b3 rfl 3 b1 rfl 0 b4 0 rfl)) ?_
 rintro t21 S21 ⟨rfl, bd6, A6, c6, e6, ok6, rfl⟩
 refine AWL.nil (kpH (tcB 0 rfl rfl pinV (tcB 1 rfl rfl pinV (tcB 3 rfl rfl pinV (tc0)))) ?_)
 refine AWH.done (by kernel_rfl) ?_
 refine AW.rseqH (HeldCs [(b4, 0, Value.int .i64 (0)), (b3, 0, Value.pointer (some ⟨p, 0, none⟩)), (b1, 0, Value.int .i64 (1))]) rfl (tells_cs (tcB 0 rfl rfl pinV (tcB 1 rfl rfl pinV (tcB 3 rfl rfl pinV (tc0))))) ?_
 refine T2 (i := 0) rfl (heldB 1 rfl ag_87 (E rfl rfl) rfl (fun _ _ => .v _)) ?_
 refine T2 (i := 1) rfl (heldB 1 rfl ag_87 (E rfl rfl) rfl (fun _ _ => .v _)) ?_
 refine T2 (i := 2) rfl (heldB 0 rfl ag_3 (E rfl rfl) rfl (fun _ _ => .v _)) ?_
 refine T2 (i := 3) rfl (heldB 1 rfl ag_87 (E rfl rfl) rfl (fun _ _ => .v _)) ?_
 refine T2 (i := 6) rfl (heldB 1 rfl ag_87 (E rfl rfl) rfl (fun _ _ => .v _)) ?_
 refine T2 (i := 8) rfl (heldAll (freeMk rfl evs0 rfl (evsC (E rfl rfl) (evsC (E rfl rfl) (evsC (E rfl rfl) evs0))) rfl)) ?_
 refine AWH.one (i := 4) (by kernel_rfl) rfl ?_
 refine cE ce_87 [i3 b4 0, p87 b3 p, z93 b2, i3 b1 1] (BdE p bd6 A6 c6) rfl rfl rfl (cCell p (1 + 24) bd6 A6 c6 ok6 (by omega) 360) ?_
 rintro t26 S26 ⟨d7, bd7, A7, c7, e7, ok7, rfl, rfl⟩
 refine AWL.nil (kpH (tcB 0 rfl rfl pinV (tcB 1 rfl rfl pinV (tcB 3 rfl rfl pinV (tc0)))) ?_)
 refine AWH.one (i := 5) (by kernel_rfl) rfl ?_
 refine cE ce_86 [i3 b4 0, p87 b3 p, z93 b2, i3 b1 1] (BdE p bd7 A7 c7) rfl rfl rfl (cSub p (1 + 28) bd7 A7 c7 ok7 (by omega) 0 d7) ?_
 rintro t27 S27 ⟨d8, bd8, A8, c8, e8, ok8, rfl, rfl⟩
 refine AWL.nil (kpH (tcB 0 rfl rfl pinV (tcB 1 rfl rfl pinV (tcB 3 rfl rfl pinV (tc0)))) ?_)
 refine AWH.one (i := 7) (by kernel_rfl) rfl ?_
 refine cE ce_87 [i3 b4 0, p87 b3 p, z93 b2, i3 b1 1] (BdE p bd8 A8 c8) rfl rfl rfl (cCell p (1 + 30) bd8 A8 c8 ok8 (by omega) 368) ?_
 rintro t29 S29 ⟨d9, bd9, A9, c9, e9, ok9, rfl, rfl⟩
 refine AWL.nil (kpH (tcB 0 rfl rfl pinV (tcB 1 rfl rfl pinV (tcB 3 rfl rfl pinV (tc0)))) ?_)
 refine AWH.one (i := 9) (by kernel_rfl) rfl ?_
 refine cA ce_80 rfl rfl rfl (cThen p (1 + 34) 1 bd9 A9 c9 ok9 (by omega) 5 d8 d9 114 #[.pointer (some ⟨b3, 0, none⟩), .pointer (some ⟨b1, 0, none⟩), .pointer (some ⟨b4, 0, none⟩)] [i3 b4 0, p87 b3 p, z93 b2, i3 b1 1] (mForward3 0) ce_114 (fun bd9 A9 c9 ok9 => cForward3 p _ bd9 A9 c9 ok9 (by omega) [i3 b4 0, p87 b3 p, z93 b2, i3 b1 1] 1 b3 rfl 3 b1 rfl 0 b4 0 rfl)) ?_
 rintro t31 S31 ⟨rfl, bd10, A10, c10, e10, ok10, rfl⟩
 refine AWL.nil (kpH (tcB 0 rfl rfl pinV (tcB 1 rfl rfl pinV (tcB 3 rfl rfl pinV (tc0)))) ?_)
 refine AWH.done (by kernel_rfl) ?_
 refine rs (yl ag_87 1 ?_)
 refine yl ag_3 0 ?_
 refine cE ce_52 [i3 b4 0, p87 b3 p, z93 b2, i3 b1 1] (BdE p bd10 A10 c10) rfl rfl rfl (cRet p (1 + 38) bd10 A10 c10 ok10 (by omega) 0) ?_
 rintro t34 S34 ⟨d11, bd11, A11, c11, e11, ok11, rfl, rfl⟩
 refine nl ?_
 refine rs (yl ag_87 1 ?_)
 refine cE ce_35 [i3 b4 0, p87 b3 p, z93 b2, i3 b1 1] (BdE p bd11 A11 c11) rfl rfl rfl (cDone p bd11 A11 c11) ?_
 rintro t36 S36 ⟨rfl, rfl⟩
 refine AWL.storeBox (i := 2) rfl rfl rfl ag_93 rfl (E rfl rfl) (E rfl rfl) rfl rfl nB (nl ?_)
 refine AW.ret (retI (.cellA (i := 2) rfl ag_93 rfl rfl rfl .nil) ?_)
 show _ = T.agg (fnCells (fnB (mForwardFn (bd0 [103, 99, 46, 102, 111, 114, 119, 97, 114, 100] 1)).2))
 rw [show mForwardFn (bd0 [103, 99, 46, 102, 111, 114, 119, 97, 114, 100] 1) = ((), bd11) from (bq e1).trans ((bq e2).trans ((bq e3).trans ((bq e4).trans ((bq e5).trans ((bq e6).trans ((bq e7).trans ((bq e8).trans ((bq e9).trans ((bq e10).trans (e11))))))))))]
 rfl

theorem cForwardFn : ACalls Tryz.prog 62 [zi 1] [] (fun t S => t = .agg (fnCells fForwardFn) ∧ S = []) := (cForwardFn_).less fun t S' h => ⟨[], List.nil_sublist _, h, rfl⟩
end Go.Proofs.YtpgbpdnmjeoeoaaGreat.B

namespace Go.Proofs.YtpgbpdnmjeoeoaaGreat.B
open Go Go.RowKit

def mStart1a (x0 x1 x2 x3 v1 v2 : Int) : BM Unit :=
 bnd (mSetCell (x0) (v1)) fun _ =>
 bnd (mSetCell (x1) (v1)) fun _ =>
 bnd (mOpC (5) (v2) (x3)) fun d3 =>
 bnd (mInto (v1) (3) (v1) (d3)) fun _ =>
 mSetCell (x2) (v1)
set_option maxHeartbeats 4000000 in
theorem cStart1a (p N : Nat) (bd : Bd) (A : Option Addr) (c : Nat) (ok : BdOk N bd) (hN : N ≤ 90000) (F : St) (i0 g0 : Nat) (h0 : F[i0]? = some (p87 g0 p)) (i1 g1 : Nat) (v1 : Int) (h1 : F[i1]? = some (Ent.box g1 3 [zi v1])) (i2 g2 : Nat) (v2 : Int) (h2 : F[i2]? = some (Ent.box g2 3 [zi v2])) (x0 x1 x2 x3 : Int) (hx0 : 0 ≤ x0) (hx1 : 0 ≤ x1) (hx2 : 0 ≤ x2) :
    ACalls Tryz.prog 75 [zi x0, zi x1, zi x2, zi x3, pv g0, pv g1, pv g2] (F ++ BdE p bd A c) (BRF (mStart1a x0 x1 x2 x3 v1 v2) bd p (N + 14) F) := by
 refine ACalls.intro Tryz.func75 rfl Tryz.ntmps75 nB rfl fun X w0 => ?_
 refine AW.seq ?_
 refine rs (ym ?_)
 refine Y1 (Yv.geq rfl eV eV) (nl ?_)
 refine AW.cond rfl (fun h0t => ?_) (fun h0f => ?_)
 ·try replace h0t := odt h0t
  refine AW.region ?_
  refine Y1 (Yv.loadBox rfl ag_87 (i := i0) (appS (l := F) h0) eV rfl) ?_
  refine ym ?_
  refine Y1 (Yv.loadBox rfl ag_3 (i := i1) (appS (l := F) h1) eV rfl) ?_
  refine cE ce_76 F (BdE p bd A c) rfl rfl rfl (cSetCell p N bd A c ok (by omega) x0 v1) ?_
  rintro t16 S16 ⟨d1, bd1, A1, c1, e1, ok1, rfl, rfl⟩
  refine nl ?_
  refine AW.seq ?_
  refine rs (ym ?_)
  refine Y1 (Yv.geq rfl eV eV) (nl ?_)
  refine AW.cond rfl (fun h1t => ?_) (fun h1f => ?_)
  ·try replace h1t := odt h1t
   refine AW.region ?_
   refine Y1 (Yv.loadBox rfl ag_87 (i := i0) (appS (l := F) h0) eV rfl) ?_
   refine ym ?_
   refine Y1 (Yv.loadBox rfl ag_3 (i := i1) (appS (l := F) h1) eV rfl) ?_
   refine cE ce_76 F (BdE p bd1 A1 c1) rfl rfl rfl (cSetCell p (N + 3) bd1 A1 c1 ok1 (by omega) x1 v1) ?_
   rintro t22 S22 ⟨d2, bd2, A2, c2, e2, ok2, rfl, rfl⟩
   refine nl ?_
   refine AW.rseqH (HeldCs [(g0, 0, Value.pointer (some ⟨p, 0, none⟩)), (g1, 0, Value.int .i64 (v1)), (g2, 0, Value.int .i64 (v2))]) rfl (tells_cs (tcB i0 (appS (l := F) h0) rfl pinV (tcB i1 (appS (l := F) h1) rfl pinV (tcB i2 (appS (l := F) h2) rfl pinV (tc0))))) ?_
   refine T2 (i := 0) rfl (heldB 0 rfl ag_87 (E rfl rfl) rfl (fun _ _ => .v _)) ?_
   refine T2 (i := 1) rfl (heldB 1 rfl ag_3 (E rfl rfl) rfl (fun _ _ => .v _)) ?_
   refine T2 (i := 2) rfl (heldB 1 rfl ag_3 (E rfl rfl) rfl (fun _ _ => .v _)) ?_
   refine T2 (i := 3) rfl (heldB 0 rfl ag_87 (E rfl rfl) rfl (fun _ _ => .v _)) ?_
   refine T2 (i := 4) rfl (heldB 2 rfl ag_3 (E rfl rfl) rfl (fun _ _ => .v _)) ?_
   refine AWH.one (i := 5) (by kernel_rfl) rfl ?_
   refine ym ?_
   refine AWL.nil (kpH (tcB i0 (appS (l := F) h0) rfl pinV (tcB i1 (appS (l := F) h1) rfl pinV (tcB i2 (appS (l := F) h2) rfl pinV (tc0)))) ?_)
   refine AWH.one (i := 6) (by kernel_rfl) rfl ?_
   refine cE ce_78 F (BdE p bd2 A2 c2) rfl rfl rfl (cOpC p (N + 6) bd2 A2 c2 ok2 (by omega) 5 v2 x3) ?_
   rintro t29 S29 ⟨d3, bd3, A3, c3, e3, ok3, rfl, rfl⟩
   refine AWL.nil (kpH (tcB i0 (appS (l := F) h0) rfl pinV (tcB i1 (appS (l := F) h1) rfl pinV (tcB i2 (appS (l := F) h2) rfl pinV (tc0)))) ?_)
   refine AWH.one (i := 7) (by kernel_rfl) rfl ?_
   refine cE ce_77 F (BdE p bd3 A3 c3) rfl rfl rfl (cInto p (N + 10) bd3 A3 c3 ok3 (by omega) v1 3 v1 d3) ?_
   rintro t30 S30 ⟨d4, bd4, A4, c4, e4, ok4, rfl, rfl⟩
   refine AWL.nil (kpH (tcB i0 (appS (l := F) h0) rfl pinV (tcB i1 (appS (l := F) h1) rfl pinV (tcB i2 (appS (l := F) h2) rfl pinV (tc0)))) ?_)
   refine AWH.done (by kernel_rfl) ?_
   refine rs (ym ?_)
   refine Y1 (Yv.geq rfl eV eV) (nl ?_)
   refine AW.cond rfl (fun h2t => ?_) (fun h2f => ?_)
   ·try replace h2t := odt h2t
    refine AW.region ?_
    refine Y1 (Yv.loadBox rfl ag_87 (i := i0) (appS (l := F) h0) eV rfl) ?_
    refine ym ?_
    refine Y1 (Yv.loadBox rfl ag_3 (i := i1) (appS (l := F) h1) eV rfl) ?_
    refine cE ce_76 F (BdE p bd4 A4 c4) rfl rfl rfl (cSetCell p (N + 11) bd4 A4 c4 ok4 (by omega) x2 v1) ?_
    rintro t36 S36 ⟨d5, bd5, A5, c5, e5, ok5, rfl, rfl⟩
    refine nl ?_
    refine retN .nil ?_
    exact ⟨rfl, _, _, _, (bq e1).trans ((bq e2).trans ((bq e3).trans ((bq e4).trans (e5)))), ok5, rfl⟩
   try replace h2f := odf h2f
   exfalso; omega
  try replace h1f := odf h1f
  exfalso; omega
 try replace h0f := odf h0f
 exfalso; omega

def mStart1b (x0 x1 x2 x3 v1 v2 : Int) : BM Unit :=
 bnd (mSetCell (x0) (v1)) fun _ =>
 bnd (mOpC (5) (v2) (x3)) fun d2 =>
 mInto (v1) (3) (v1) (d2)
set_option maxHeartbeats 4000000 in
theorem cStart1b (p N : Nat) (bd : Bd) (A : Option Addr) (c : Nat) (ok : BdOk N bd) (hN : N ≤ 90000) (F : St) (i0 g0 : Nat) (h0 : F[i0]? = some (p87 g0 p)) (i1 g1 : Nat) (v1 : Int) (h1 : F[i1]? = some (Ent.box g1 3 [zi v1])) (i2 g2 : Nat) (v2 : Int) (h2 : F[i2]? = some (Ent.box g2 3 [zi v2])) (x0 x1 x2 x3 : Int) (hx0 : 0 ≤ x0) (hx1 : x1 < 0) (hx2 : x2 < 0) :
    ACalls Tryz.prog 75 [zi x0, zi x1, zi x2, zi x3, pv g0, pv g1, pv g2] (F ++ BdE p bd A c) (BRF (mStart1b x0 x1 x2 x3 v1 v2) bd p (N + 8) F) := by
 refine ACalls.intro Tryz.func75 rfl Tryz.ntmps75 nB rfl fun X w0 => ?_
 refine AW.seq ?_
 refine rs (ym ?_)
 refine Y1 (Yv.geq rfl eV eV) (nl ?_)
 refine AW.cond rfl (fun h0t => ?_) (fun h0f => ?_)
 ·try replace h0t := odt h0t
  refine AW.region ?_
  refine Y1 (Yv.loadBox rfl ag_87 (i := i0) (appS (l := F) h0) eV rfl) ?_
  refine ym ?_
  refine Y1 (Yv.loadBox rfl ag_3 (i := i1) (appS (l := F) h1) eV rfl) ?_
  refine cE ce_76 F (BdE p bd A c) rfl rfl rfl (cSetCell p N bd A c ok (by omega) x0 v1) ?_
  rintro t16 S16 ⟨d1, bd1, A1, c1, e1, ok1, rfl, rfl⟩
  refine nl ?_
  refine AW.seq ?_
  refine rs (ym ?_)
  refine Y1 (Yv.geq rfl eV eV) (nl ?_)
  refine AW.cond rfl (fun h1t => ?_) (fun h1f => ?_)
  ·try replace h1t := odt h1t
   exfalso; omega
  try replace h1f := odf h1f
  refine AW.skip ?_
  refine AW.rseqH (HeldCs [(g0, 0, Value.pointer (some ⟨p, 0, none⟩)), (g1, 0, Value.int .i64 (v1)), (g2, 0, Value.int .i64 (v2))]) rfl (tells_cs (tcB i0 (appS (l := F) h0) rfl pinV (tcB i1 (appS (l := F) h1) rfl pinV (tcB i2 (appS (l := F) h2) rfl pinV (tc0))))) ?_
  refine T2 (i := 0) rfl (heldB 0 rfl ag_87 (E rfl rfl) rfl (fun _ _ => .v _)) ?_
  refine T2 (i := 1) rfl (heldB 1 rfl ag_3 (E rfl rfl) rfl (fun _ _ => .v _)) ?_
  refine T2 (i := 2) rfl (heldB 1 rfl ag_3 (E rfl rfl) rfl (fun _ _ => .v _)) ?_
  refine T2 (i := 3) rfl (heldB 0 rfl ag_87 (E rfl rfl) rfl (fun _ _ => .v _)) ?_
  refine T2 (i := 4) rfl (heldB 2 rfl ag_3 (E rfl rfl) rfl (fun _ _ => .v _)) ?_
  refine AWH.one (i := 5) (by kernel_rfl) rfl ?_
  refine ym ?_
  refine AWL.nil (kpH (tcB i0 (appS (l := F) h0) rfl pinV (tcB i1 (appS (l := F) h1) rfl pinV (tcB i2 (appS (l := F) h2) rfl pinV (tc0)))) ?_)
  refine AWH.one (i := 6) (by kernel_rfl) rfl ?_
  refine cE ce_78 F (BdE p bd1 A1 c1) rfl rfl rfl (cOpC p (N + 3) bd1 A1 c1 ok1 (by omega) 5 v2 x3) ?_
  rintro t29 S29 ⟨d2, bd2, A2, c2, e2, ok2, rfl, rfl⟩
  refine AWL.nil (kpH (tcB i0 (appS (l := F) h0) rfl pinV (tcB i1 (appS (l := F) h1) rfl pinV (tcB i2 (appS (l := F) h2) rfl pinV (tc0)))) ?_)
  refine AWH.one (i := 7) (by kernel_rfl) rfl ?_
  refine cE ce_77 F (BdE p bd2 A2 c2) rfl rfl rfl (cInto p (N + 7) bd2 A2 c2 ok2 (by omega) v1 3 v1 d2) ?_
  rintro t30 S30 ⟨d3, bd3, A3, c3, e3, ok3, rfl, rfl⟩
  refine AWL.nil (kpH (tcB i0 (appS (l := F) h0) rfl pinV (tcB i1 (appS (l := F) h1) rfl pinV (tcB i2 (appS (l := F) h2) rfl pinV (tc0)))) ?_)
  refine AWH.done (by kernel_rfl) ?_
  refine rs (ym ?_)
  refine Y1 (Yv.geq rfl eV eV) (nl ?_)
  refine AW.cond rfl (fun h2t => ?_) (fun h2f => ?_)
  ·try replace h2t := odt h2t
   exfalso; omega
  try replace h2f := odf h2f
  refine AW.skip ?_
  refine retN .nil ?_
  exact ⟨rfl, _, _, _, (bq e1).trans ((bq e2).trans (e3)), ok3, rfl⟩
 try replace h0f := odf h0f
 exfalso; omega

def mStart1c (x0 x1 x2 x3 v1 v2 : Int) : BM Unit :=
 bnd (mSetCell (x0) (v1)) fun _ =>
 bnd (mSetCell (x1) (v1)) fun _ =>
 bnd (mOpC (5) (v2) (x3)) fun d3 =>
 mInto (v1) (3) (v1) (d3)
set_option maxHeartbeats 4000000 in
theorem cStart1c (p N : Nat) (bd : Bd) (A : Option Addr) (c : Nat) (ok : BdOk N bd) (hN : N ≤ 90000) (F : St) (i0 g0 : Nat) (h0 : F[i0]? = some (p87 g0 p)) (i1 g1 : Nat) (v1 : Int) (h1 : F[i1]? = some (Ent.box g1 3 [zi v1])) (i2 g2 : Nat) (v2 : Int) (h2 : F[i2]? = some (Ent.box g2 3 [zi v2])) (x0 x1 x2 x3 : Int) (hx0 : 0 ≤ x0) (hx1 : 0 ≤ x1) (hx2 : x2 < 0) :
    ACalls Tryz.prog 75 [zi x0, zi x1, zi x2, zi x3, pv g0, pv g1, pv g2] (F ++ BdE p bd A c) (BRF (mStart1c x0 x1 x2 x3 v1 v2) bd p (N + 11) F) := by
 refine ACalls.intro Tryz.func75 rfl Tryz.ntmps75 nB rfl fun X w0 => ?_
 refine AW.seq ?_
 refine rs (ym ?_)
 refine Y1 (Yv.geq rfl eV eV) (nl ?_)
 refine AW.cond rfl (fun h0t => ?_) (fun h0f => ?_)
 ·try replace h0t := odt h0t
  refine AW.region ?_
  refine Y1 (Yv.loadBox rfl ag_87 (i := i0) (appS (l := F) h0) eV rfl) ?_
  refine ym ?_
  refine Y1 (Yv.loadBox rfl ag_3 (i := i1) (appS (l := F) h1) eV rfl) ?_
  refine cE ce_76 F (BdE p bd A c) rfl rfl rfl (cSetCell p N bd A c ok (by omega) x0 v1) ?_
  rintro t16 S16 ⟨d1, bd1, A1, c1, e1, ok1, rfl, rfl⟩
  refine nl ?_
  refine AW.seq ?_
  refine rs (ym ?_)
  refine Y1 (Yv.geq rfl eV eV) (nl ?_)
  refine AW.cond rfl (fun h1t => ?_) (fun h1f => ?_)
  ·try replace h1t := odt h1t
   refine AW.region ?_
   refine Y1 (Yv.loadBox rfl ag_87 (i := i0) (appS (l := F) h0) eV rfl) ?_
   refine ym ?_
   refine Y1 (Yv.loadBox rfl ag_3 (i := i1) (appS (l := F) h1) eV rfl) ?_
   refine cE ce_76 F (BdE p bd1 A1 c1) rfl rfl rfl (cSetCell p (N + 3) bd1 A1 c1 ok1 (by omega) x1 v1) ?_
   rintro t22 S22 ⟨d2, bd2, A2, c2, e2, ok2, rfl, rfl⟩
   refine nl ?_
   refine AW.rseqH (HeldCs [(g0, 0, Value.pointer (some ⟨p, 0, none⟩)), (g1, 0, Value.int .i64 (v1)), (g2, 0, Value.int .i64 (v2))]) rfl (tells_cs (tcB i0 (appS (l := F) h0) rfl pinV (tcB i1 (appS (l := F) h1) rfl pinV (tcB i2 (appS (l := F) h2) rfl pinV (tc0))))) ?_
   refine T2 (i := 0) rfl (heldB 0 rfl ag_87 (E rfl rfl) rfl (fun _ _ => .v _)) ?_
   refine T2 (i := 1) rfl (heldB 1 rfl ag_3 (E rfl rfl) rfl (fun _ _ => .v _)) ?_
   refine T2 (i := 2) rfl (heldB 1 rfl ag_3 (E rfl rfl) rfl (fun _ _ => .v _)) ?_
   refine T2 (i := 3) rfl (heldB 0 rfl ag_87 (E rfl rfl) rfl (fun _ _ => .v _)) ?_
   refine T2 (i := 4) rfl (heldB 2 rfl ag_3 (E rfl rfl) rfl (fun _ _ => .v _)) ?_
   refine AWH.one (i := 5) (by kernel_rfl) rfl ?_
   refine ym ?_
   refine AWL.nil (kpH (tcB i0 (appS (l := F) h0) rfl pinV (tcB i1 (appS (l := F) h1) rfl pinV (tcB i2 (appS (l := F) h2) rfl pinV (tc0)))) ?_)
   refine AWH.one (i := 6) (by kernel_rfl) rfl ?_
   refine cE ce_78 F (BdE p bd2 A2 c2) rfl rfl rfl (cOpC p (N + 6) bd2 A2 c2 ok2 (by omega) 5 v2 x3) ?_
   rintro t29 S29 ⟨d3, bd3, A3, c3, e3, ok3, rfl, rfl⟩
   refine AWL.nil (kpH (tcB i0 (appS (l := F) h0) rfl pinV (tcB i1 (appS (l := F) h1) rfl pinV (tcB i2 (appS (l := F) h2) rfl pinV (tc0)))) ?_)
   refine AWH.one (i := 7) (by kernel_rfl) rfl ?_
   refine cE ce_77 F (BdE p bd3 A3 c3) rfl rfl rfl (cInto p (N + 10) bd3 A3 c3 ok3 (by omega) v1 3 v1 d3) ?_
   rintro t30 S30 ⟨d4, bd4, A4, c4, e4, ok4, rfl, rfl⟩
   refine AWL.nil (kpH (tcB i0 (appS (l := F) h0) rfl pinV (tcB i1 (appS (l := F) h1) rfl pinV (tcB i2 (appS (l := F) h2) rfl pinV (tc0)))) ?_)
   refine AWH.done (by kernel_rfl) ?_
   refine rs (ym ?_)
   refine Y1 (Yv.geq rfl eV eV) (nl ?_)
   refine AW.cond rfl (fun h2t => ?_) (fun h2f => ?_)
   ·try replace h2t := odt h2t
    exfalso; omega
   try replace h2f := odf h2f
   refine AW.skip ?_
   refine retN .nil ?_
   exact ⟨rfl, _, _, _, (bq e1).trans ((bq e2).trans ((bq e3).trans (e4))), ok4, rfl⟩
  try replace h1f := odf h1f
  exfalso; omega
 try replace h0f := odf h0f
 exfalso; omega

def mStartFn : BM Unit :=
 bnd (regM) fun d1 =>
 bnd (putM (insI (29) (d1) (0) (0) (0) (0) (0) (0) (0) (0))) fun _ =>
 bnd (mShr (d1) (7)) fun dm0 =>
 bnd (mShl (dm0) (3)) fun dm1 =>
 bnd (mC (1073741824)) fun d3 =>
 bnd (mStart1a (256) (264) (272) (2) (d3) (dm1)) fun _ =>
 bnd (mStart1a (280) (288) (296) (4) (d3) (dm1)) fun _ =>
 bnd (mStart1b (304) ((-1)) ((-1)) (4) (d3) (dm1)) fun _ =>
 bnd (mStart1c (312) (320) ((-1)) (2) (d3) (dm1)) fun _ =>
 bnd (mIncr (d3) (64)) fun _ =>
 bnd (mOpC (5) (dm1) (4)) fun d9 =>
 bnd (mSetCell (376) (d9)) fun _ =>
 bnd (mSetCell (8) (d3)) fun _ =>
 bnd (mSetCell (0) (d3)) fun _ =>
 bnd (mShl (dm1) (1)) fun d13 =>
 bnd (mC (16777216)) fun d14 =>
 bnd (mThen (3) (d14) (d13) (mStart2 (d13))) fun _ =>
 bnd (mAdd (d3) (d13)) fun d16 =>
 bnd (mSetCell (16) (d16)) fun _ =>
 bnd (mC (1)) fun d18 =>
 bnd (mSetCell (24) (d18)) fun _ =>
 bnd (mC (16777227)) fun d20 =>
 bnd (stepN (fun k => bnd (mSetCell ((32 + (16 * (k : Int)))) (d20)) fun _ =>
 mSetCell (((32 + (16 * (k : Int))) + 8)) (d18)) 8) fun _ =>
 mRet (d18)
def fStartFn : Fn := fnB (mStartFn (bd0 [103, 99, 46, 115, 116, 97, 114, 116] 0)).2
set_option maxHeartbeats 16000000 in
theorem cStartFn_  :
    ACalls Tryz.prog 54 [zi 1] [] (fun t S => t = .agg (fnCells (fStartFn))) := by
 refine ACalls.intro Tryz.func54 rfl Tryz.ntmps54 nB rfl fun X w0 => ?_
 refine rs ?_
 refine AWL.allocOp rfl rfl (B rfl) rfl zc_93 (fun b2 => ?_)
 refine AWL.perm (List.perm_append_singleton _ _).symm (nl ?_)
 refine rs ?_
 refine cE ce_32 [z93 b2] [] rfl rfl rfl (cNew [103, 99, 46, 115, 116, 97, 114, 116] 0) ?_
 rintro t12 S12 ⟨p, rfl, rfl⟩
 have ok0 : BdOk 1 (bd0 [103, 99, 46, 115, 116, 97, 114, 116] 0) := ⟨by decide, by decide, by decide, by decide, by decide, by decide, by decide⟩
 refine AWL.allocOp rfl rfl (B rfl) rfl zc_87 (fun b3 => ?_)
 refine AWL.perm (List.perm_append_singleton _ _).symm ?_
 refine AWL.storeBox (i := 0) rfl rfl rfl ag_87 rfl (E rfl rfl) (E rfl rfl) rfl rfl nB (nl ?_)
 refine rs (yl ag_87 0 ?_)
 refine cE ce_50 [p87 b3 p, z93 b2] (BdE p (bd0 [103, 99, 46, 115, 116, 97, 114, 116] 0) none 0) rfl rfl rfl (cReg p 1 (bd0 [103, 99, 46, 115, 116, 97, 114, 116] 0) none 0 ok0 (by omega) ) ?_
 rintro t14 S14 ⟨d1, bd1, A1, c1, e1, ok1, rfl, rfl⟩
 refine ya ?_
 refine rs (yl ag_87 0 ?_)
 refine ym ?_
 refine Y1 (Yv.buildS rfl sh_98 (evpC eV (evpC eV evp0)) (fun _ => rfl)) ?_
 refine cE ce_51 [p87 b3 p, z93 b2] (BdE p bd1 A1 c1) rfl rfl rfl ((cPut p (1 + 1) bd1 A1 c1 ok1 (by omega) (insI 29 d1 0 0 0 0 0 0 0 0)).le (.cons .refl (.cons nil_le .refl))) ?_
 rintro t18 S18 ⟨d2, bd2, A2, c2, e2, ok2, rfl, rfl⟩
 refine nl ?_
 refine AW.mid (α := Int × Bd × Int × Bd × Option Addr × Nat × Nat) (fun ⟨dm0, bm0, dm1, bm1, Am, cm, b5⟩ => [(0, true, zi (1)), (2, true, pv b2), (3, true, pv b3), (4, true, zi (d1)), (5, true, pv b5)]) (fun ⟨dm0, bm0, dm1, bm1, Am, cm, b5⟩ => [i3 b5 dm1, p87 b3 p, z93 b2] ++ BdE p bm1 Am cm) (fun ⟨dm0, bm0, dm1, bm1, Am, cm, b5⟩ => (mShr (d1) (7)) bd2 = (dm0, bm0) ∧ (mShl (dm0) (3)) bm0 = (dm1, bm1) ∧ BdOk (1 + 10) bm1) ?_ ?_
 ·refine AW.regionH (HeldCs [(b3, 0, Value.pointer (some ⟨p, 0, none⟩))]) rfl (tells_cs (tcB 0 rfl rfl pinV (tc0))) ?_
  refine T2 (i := 0) rfl (heldB 0 rfl ag_87 (E rfl rfl) rfl (fun _ _ => .v _)) ?_
  refine T2 (i := 1) rfl (heldB 0 rfl ag_87 (E rfl rfl) rfl (fun _ _ => .v _)) ?_
  refine T2 (i := 2) rfl (heldAll (freeMove rfl (E rfl rfl))) ?_
  refine AWH.two (i := 3) (j := 5) (by kernel_rfl) rfl rfl ?_ ?_
  ·refine cE ce_74 [p87 b3 p, z93 b2] (BdE p bd2 A2 c2) rfl rfl rfl (cShr p (1 + 2) bd2 A2 c2 ok2 (by omega) d1 7) ?_
   rintro t22 S22 ⟨d3, bd3, A3, c3, e3, ok3, rfl, rfl⟩
   refine AWL.nil (kpH (tcB 0 rfl rfl pinV (tc0)) ?_)
   refine AWH.two (i := 4) (j := 5) (by kernel_rfl) rfl rfl ?_ ?_
   ·refine cE ce_73 [p87 b3 p, z93 b2] (BdE p bd3 A3 c3) rfl rfl rfl (cShl p (1 + 6) bd3 A3 c3 ok3 (by omega) d3 3) ?_
    rintro t23 S23 ⟨d4, bd4, A4, c4, e4, ok4, rfl, rfl⟩
    refine AWL.nil (kpH (tcB 0 rfl rfl pinV (tc0)) ?_)
    refine AWH.one (i := 5) (by kernel_rfl) rfl ?_
    refine AWL.allocOp rfl rfl (B rfl) rfl zc_3 (fun b5 => ?_)
    refine AWL.perm (List.perm_append_singleton _ _).symm ?_
    refine AWL.nil (kpH (tcB 1 rfl rfl pinV (tc0)) ?_)
    refine AWH.one (i := 6) (by kernel_rfl) rfl ?_
    refine AWL.storeBox (i := 0) rfl rfl rfl ag_3 rfl (E rfl rfl) (E rfl rfl) rfl rfl nB ?_
    refine AWL.nil (kpH (tcB 1 rfl rfl pinV (tc0)) ?_)
    refine AWH.done (by kernel_rfl) ?_
    exact ⟨(d3, bd3, d4, bd4, A4, c4, b5), ⟨e3, e4, ok4⟩, (su (su (su (su (su sn))))), rfl⟩
   refine AWL.allocOp rfl rfl (B rfl) rfl zc_3 (fun b5 => ?_)
   refine AWL.perm (List.perm_append_singleton _ _).symm ?_
   refine AWL.nil (kpH (tcB 1 rfl rfl pinV (tc0)) ?_)
   refine AWH.one (i := 4) (by kernel_rfl) rfl ?_
   refine cE ce_73 [Ent.box b5 3 (([.int .i64 0] : List Value).map T.v), p87 b3 p, z93 b2] (BdE p bd3 A3 c3) rfl rfl rfl (cShl p (1 + 6) bd3 A3 c3 ok3 (by omega) d3 3) ?_
   rintro t23 S23 ⟨d4, bd4, A4, c4, e4, ok4, rfl, rfl⟩
   refine AWL.nil (kpH (tcB 1 rfl rfl pinV (tc0)) ?_)
   refine AWH.one (i := 6) (by kernel_rfl) rfl ?_
   refine AWL.storeBox (i := 0) rfl rfl rfl ag_3 rfl (E rfl rfl) (E rfl rfl) rfl rfl nB ?_
   refine AWL.nil (kpH (tcB 1 rfl rfl pinV (tc0)) ?_)
   refine AWH.done (by kernel_rfl) ?_
   exact ⟨(d3, bd3, d4, bd4, A4, c4, b5), ⟨e3, e4, ok4⟩, (su (su (su (su (su sn))))), rfl⟩
  refine AWL.allocOp rfl rfl (B rfl) rfl zc_3 (fun b5 => ?_)
  refine AWL.perm (List.perm_append_singleton _ _).symm ?_
  refine AWL.nil (kpH (tcB 1 rfl rfl pinV (tc0)) ?_)
  refine AWH.one (i := 3) (by kernel_rfl) rfl ?_
  refine cE ce_74 [Ent.box b5 3 (([.int .i64 0] : List Value).map T.v), p87 b3 p, z93 b2] (BdE p bd2 A2 c2) rfl rfl rfl (cShr p (1 + 2) bd2 A2 c2 ok2 (by omega) d1 7) ?_
  rintro t22 S22 ⟨d3, bd3, A3, c3, e3, ok3, rfl, rfl⟩
  refine AWL.nil (kpH (tcB 1 rfl rfl pinV (tc0)) ?_)
  refine AWH.one (i := 4) (by kernel_rfl) rfl ?_
  refine cE ce_73 [Ent.box b5 3 (([.int .i64 0] : List Value).map T.v), p87 b3 p, z93 b2] (BdE p bd3 A3 c3) rfl rfl rfl (cShl p (1 + 6) bd3 A3 c3 ok3 (by omega) d3 3) ?_
  rintro t23 S23 ⟨d4, bd4, A4, c4, e4, ok4, rfl, rfl⟩
  refine AWL.nil (kpH (tcB 1 rfl rfl pinV (tc0)) ?_)
  refine AWH.one (i := 6) (by kernel_rfl) rfl ?_
  refine AWL.storeBox (i := 0) rfl rfl rfl ag_3 rfl (E rfl rfl) (E rfl rfl) rfl rfl nB ?_
  refine AWL.nil (kpH (tcB 1 rfl rfl pinV (tc0)) ?_)
  refine AWH.done (by kernel_rfl) ?_
  exact ⟨(d3, bd3, d4, bd4, A4, c4, b5), ⟨e3, e4, ok4⟩, (su (su (su (su (su sn))))), rfl⟩
 rintro ⟨dm0, bm0, dm1, bm1, Am, cm, b5⟩ ⟨em0, em1, okm⟩
 refine rs (yl ag_87 1 ?_)
 refine cE ce_53 [i3 b5 dm1, p87 b3 p, z93 b2] (BdE p bm1 Am cm) rfl rfl rfl (cC p (1 + 10) bm1 Am cm okm (by omega) 1073741824) ?_
 rintro t25 S25 ⟨d3, bd3, A3, c3, e3, ok3, rfl, rfl⟩
 refine AWL.allocOp rfl rfl (B rfl) rfl zc_3 (fun b6 => ?_)
 refine AWL.perm (List.perm_append_singleton _ _).symm ?_
 refine AWL.storeBox (i := 0) rfl rfl rfl ag_3 rfl (E rfl rfl) (E rfl rfl) rfl rfl nB (nl ?_)
 refine rs (Y1 (Yv.makeFunc rfl evs0 rfl (evsC eV (evsC eV (evsC eV evs0))) rfl) ?_)
 refine ya ?_
 refine rs (ym ?_)
 refine cA ce_75 rfl rfl rfl (cStart1a p (1 + 12) bd3 A3 c3 ok3 (by omega) [i3 b6 d3, i3 b5 dm1, p87 b3 p, z93 b2] 2 b3 rfl 0 b6 d3 rfl 1 b5 dm1 rfl 256 264 272 2 (by decide) (by decide) (by decide)) ?_
 rintro t28 S28 ⟨rfl, bd4, A4, c4, e4, ok4, rfl⟩
 refine nl ?_
 refine rs (ym ?_)
 refine cA ce_75 rfl rfl rfl (cStart1a p (1 + 26) bd4 A4 c4 ok4 (by omega) [i3 b6 d3, i3 b5 dm1, p87 b3 p, z93 b2] 2 b3 rfl 0 b6 d3 rfl 1 b5 dm1 rfl 280 288 296 4 (by decide) (by decide) (by decide)) ?_
 rintro t30 S30 ⟨rfl, bd5, A5, c5, e5, ok5, rfl⟩
 refine nl ?_
 refine rs (ym ?_)
 refine cA ce_75 rfl rfl rfl (cStart1b p (1 + 40) bd5 A5 c5 ok5 (by omega) [i3 b6 d3, i3 b5 dm1, p87 b3 p, z93 b2] 2 b3 rfl 0 b6 d3 rfl 1 b5 dm1 rfl 304 ((-1)) ((-1)) 4 (by decide) (by decide) (by decide)) ?_
 rintro t32 S32 ⟨rfl, bd6, A6, c6, e6, ok6, rfl⟩
 refine nl ?_
 refine rs (ym ?_)
 refine cA ce_75 rfl rfl rfl (cStart1c p (1 + 48) bd6 A6 c6 ok6 (by omega) [i3 b6 d3, i3 b5 dm1, p87 b3 p, z93 b2] 2 b3 rfl 0 b6 d3 rfl 1 b5 dm1 rfl 312 320 ((-1)) 2 (by decide) (by decide) (by decide)) ?_
 rintro t34 S34 ⟨rfl, bd7, A7, c7, e7, ok7, rfl⟩
 refine nl ?_
 refine rs (yl ag_87 2 ?_)
 refine yl ag_3 0 ?_
 refine cE ce_79 [i3 b6 d3, i3 b5 dm1, p87 b3 p, z93 b2] (BdE p bd7 A7 c7) rfl rfl rfl (cIncr p (1 + 59) bd7 A7 c7 ok7 (by omega) d3 64) ?_
 rintro t37 S37 ⟨d8, bd8, A8, c8, e8, ok8, rfl, rfl⟩
 refine nl ?_
 refine AW.rseqH (HeldCs [(b6, 0, Value.int .i64 (d3)), (b5, 0, Value.int .i64 (dm1)), (b3, 0, Value.pointer (some ⟨p, 0, none⟩))]) rfl (tells_cs (tcB 0 rfl rfl pinV (tcB 1 rfl rfl pinV (tcB 2 rfl rfl pinV (tc0))))) ?_
 refine T2 (i := 0) rfl (heldB 2 rfl ag_87 (E rfl rfl) rfl (fun _ _ => .v _)) ?_
 refine T2 (i := 1) rfl (heldB 2 rfl ag_87 (E rfl rfl) rfl (fun _ _ => .v _)) ?_
 refine AWH.one (i := 2) (by kernel_rfl) rfl ?_
 refine yl ag_3 1 ?_
 refine AWL.nil (kpH (tcB 0 rfl rfl pinV (tcB 1 rfl rfl pinV (tcB 2 rfl rfl pinV (tc0)))) ?_)
 refine AWH.one (i := 3) (by kernel_rfl) rfl ?_
 refine cE ce_78 [i3 b6 d3, i3 b5 dm1, p87 b3 p, z93 b2] (BdE p bd8 A8 c8) rfl rfl rfl (cOpC p (1 + 62) bd8 A8 c8 ok8 (by omega) 5 dm1 4) ?_
 rintro t41 S41 ⟨d9, bd9, A9, c9, e9, ok9, rfl, rfl⟩
 refine AWL.nil (kpH (tcB 0 rfl rfl pinV (tcB 1 rfl rfl pinV (tcB 2 rfl rfl pinV (tc0)))) ?_)
 refine AWH.one (i := 4) (by kernel_rfl) rfl ?_
 refine cE ce_76 [i3 b6 d3, i3 b5 dm1, p87 b3 p, z93 b2] (BdE p bd9 A9 c9) rfl rfl rfl (cSetCell p (1 + 66) bd9 A9 c9 ok9 (by omega) 376 d9) ?_
 rintro t42 S42 ⟨d10, bd10, A10, c10, e10, ok10, rfl, rfl⟩
 refine AWL.nil (kpH (tcB 0 rfl rfl pinV (tcB 1 rfl rfl pinV (tcB 2 rfl rfl pinV (tc0)))) ?_)
 refine AWH.done (by kernel_rfl) ?_
 refine rs (yl ag_87 2 ?_)
 refine yl ag_3 0 ?_
 refine cE ce_76 [i3 b6 d3, i3 b5 dm1, p87 b3 p, z93 b2] (BdE p bd10 A10 c10) rfl rfl rfl (cSetCell p (1 + 69) bd10 A10 c10 ok10 (by omega) 8 d3) ?_
 rintro t45 S45 ⟨d11, bd11, A11, c11, e11, ok11, rfl, rfl⟩
 refine nl ?_
 refine rs (yl ag_87 2 ?_)
 refine yl ag_3 0 ?_
 refine cE ce_76 [i3 b6 d3, i3 b5 dm1, p87 b3 p, z93 b2] (BdE p bd11 A11 c11) rfl rfl rfl (cSetCell p (1 + 72) bd11 A11 c11 ok11 (by omega) 0 d3) ?_
 rintro t48 S48 ⟨d12, bd12, A12, c12, e12, ok12, rfl, rfl⟩
 refine nl ?_
 refine rs (yl ag_87 2 ?_)
 refine yl ag_3 1 ?_
 refine cE ce_73 [i3 b6 d3, i3 b5 dm1, p87 b3 p, z93 b2] (BdE p bd12 A12 c12) rfl rfl rfl (cShl p (1 + 75) bd12 A12 c12 ok12 (by omega) dm1 1) ?_
 rintro t51 S51 ⟨d13, bd13, A13, c13, e13, ok13, rfl, rfl⟩
 refine AWL.allocOp rfl rfl (B rfl) rfl zc_3 (fun b8 => ?_)
 refine AWL.perm (List.perm_append_singleton _ _).symm ?_
 refine AWL.storeBox (i := 0) rfl rfl rfl ag_3 rfl (E rfl rfl) (E rfl rfl) rfl rfl nB (nl ?_)
 refine AW.rseqH (HeldCs [(b8, 0, Value.int .i64 (d13)), (b6, 0, Value.int .i64 (d3)), (b5, 0, Value.int .i64 (dm1)), (b3, 0, Value.pointer (some ⟨p, 0, none⟩))]) rfl (tells_cs (tcB 0 rfl rfl pinV (tcB 1 rfl rfl pinV (tcB 2 rfl rfl pinV (tcB 3 rfl rfl pinV (tc0)))))) ?_
 refine T2 (i := 0) rfl (heldB 3 rfl ag_87 (E rfl rfl) rfl (fun _ _ => .v _)) ?_
 refine T2 (i := 1) rfl (heldB 3 rfl ag_87 (E rfl rfl) rfl (fun _ _ => .v _)) ?_
 refine T2 (i := 3) rfl (heldB 0 rfl ag_3 (E rfl rfl) rfl (fun _ _ => .v _)) ?_
 refine T2 (i := 4) rfl (heldAll (freeMk rfl evs0 rfl (evsC (E rfl rfl) (evsC (E rfl rfl) evs0)) rfl)) ?_
 refine AWH.one (i := 2) (by kernel_rfl) rfl ?_
 refine cE ce_53 [i3 b8 d13, i3 b6 d3, i3 b5 dm1, p87 b3 p, z93 b2] (BdE p bd13 A13 c13) rfl rfl rfl (cC p (1 + 79) bd13 A13 c13 ok13 (by omega) 16777216) ?_
 rintro t54 S54 ⟨d14, bd14, A14, c14, e14, ok14, rfl, rfl⟩
 refine AWL.nil (kpH (tcB 0 rfl rfl pinV (tcB 1 rfl rfl pinV (tcB 2 rfl rfl pinV (tcB 3 rfl rfl pinV (tc0))))) ?_)
 refine AWH.one (i := 5) (by kernel_rfl) rfl ?_
 refine cA ce_80 rfl rfl rfl (cThen p (1 + 81) 1 bd14 A14 c14 ok14 (by omega) 3 d14 d13 81 #[.pointer (some ⟨b3, 0, none⟩), .pointer (some ⟨b8, 0, none⟩)] [i3 b8 d13, i3 b6 d3, i3 b5 dm1, p87 b3 p, z93 b2] (mStart2 d13) ce_81 (fun bd9 A9 c9 ok9 => cStart2 p _ bd9 A9 c9 ok9 (by omega) [i3 b8 d13, i3 b6 d3, i3 b5 dm1, p87 b3 p, z93 b2] 3 b3 rfl 0 b8 d13 rfl)) ?_
 rintro t57 S57 ⟨rfl, bd15, A15, c15, e15, ok15, rfl⟩
 refine AWL.nil (kpH (tcB 0 rfl rfl pinV (tcB 1 rfl rfl pinV (tcB 2 rfl rfl pinV (tcB 3 rfl rfl pinV (tc0))))) ?_)
 refine AWH.done (by kernel_rfl) ?_
 refine AW.rseqH (HeldCs [(b8, 0, Value.int .i64 (d13)), (b6, 0, Value.int .i64 (d3)), (b5, 0, Value.int .i64 (dm1)), (b3, 0, Value.pointer (some ⟨p, 0, none⟩))]) rfl (tells_cs (tcB 0 rfl rfl pinV (tcB 1 rfl rfl pinV (tcB 2 rfl rfl pinV (tcB 3 rfl rfl pinV (tc0)))))) ?_
 refine T2 (i := 0) rfl (heldB 3 rfl ag_87 (E rfl rfl) rfl (fun _ _ => .v _)) ?_
 refine T2 (i := 1) rfl (heldB 3 rfl ag_87 (E rfl rfl) rfl (fun _ _ => .v _)) ?_
 refine T2 (i := 2) rfl (heldB 1 rfl ag_3 (E rfl rfl) rfl (fun _ _ => .v _)) ?_
 refine AWH.one (i := 3) (by kernel_rfl) rfl ?_
 refine yl ag_3 0 ?_
 refine AWL.nil (kpH (tcB 0 rfl rfl pinV (tcB 1 rfl rfl pinV (tcB 2 rfl rfl pinV (tcB 3 rfl rfl pinV (tc0))))) ?_)
 refine AWH.one (i := 4) (by kernel_rfl) rfl ?_
 refine cE ce_83 [i3 b8 d13, i3 b6 d3, i3 b5 dm1, p87 b3 p, z93 b2] (BdE p bd15 A15 c15) rfl rfl rfl (cAdd p (1 + 85) bd15 A15 c15 ok15 (by omega) d3 d13) ?_
 rintro t62 S62 ⟨d16, bd16, A16, c16, e16, ok16, rfl, rfl⟩
 refine AWL.nil (kpH (tcB 0 rfl rfl pinV (tcB 1 rfl rfl pinV (tcB 2 rfl rfl pinV (tcB 3 rfl rfl pinV (tc0))))) ?_)
 refine AWH.one (i := 5) (by kernel_rfl) rfl ?_
 refine cE ce_76 [i3 b8 d13, i3 b6 d3, i3 b5 dm1, p87 b3 p, z93 b2] (BdE p bd16 A16 c16) rfl rfl rfl (cSetCell p (1 + 87) bd16 A16 c16 ok16 (by omega) 16 d16) ?_
 rintro t63 S63 ⟨d17, bd17, A17, c17, e17, ok17, rfl, rfl⟩
 refine AWL.nil (kpH (tcB 0 rfl rfl pinV (tcB 1 rfl rfl pinV (tcB 2 rfl rfl pinV (tcB 3 rfl rfl pinV (tc0))))) ?_)
 refine AWH.done (by kernel_rfl) ?_
 refine rs (yl ag_87 3 ?_)
 refine cE ce_53 [i3 b8 d13, i3 b6 d3, i3 b5 dm1, p87 b3 p, z93 b2] (BdE p bd17 A17 c17) rfl rfl rfl (cC p (1 + 90) bd17 A17 c17 ok17 (by omega) 1) ?_
 rintro t65 S65 ⟨d18, bd18, A18, c18, e18, ok18, rfl, rfl⟩
 refine ya ?_
 refine rs (yl ag_87 3 ?_)
 refine ym ?_
 refine cE ce_76 [i3 b8 d13, i3 b6 d3, i3 b5 dm1, p87 b3 p, z93 b2] (BdE p bd18 A18 c18) rfl rfl rfl (cSetCell p (1 + 92) bd18 A18 c18 ok18 (by omega) 24 d18) ?_
 rintro t68 S68 ⟨d19, bd19, A19, c19, e19, ok19, rfl, rfl⟩
 refine nl ?_
 refine rs (yl ag_87 3 ?_)
 refine cE ce_53 [i3 b8 d13, i3 b6 d3, i3 b5 dm1, p87 b3 p, z93 b2] (BdE p bd19 A19 c19) rfl rfl rfl (cC p (1 + 95) bd19 A19 c19 ok19 (by omega) 16777227) ?_
 rintro t70 S70 ⟨d20, bd20, A20, c20, e20, ok20, rfl, rfl⟩
 refine ya ?_
 refine AW.seq ?_
 refine ra ?_
 refine AW.block ?_
 refine AW.loop4 (fun (k : Nat) (lb : Bd) (lA : Option Addr) (lc : Nat) => [(0, true, zi (1)), (2, true, pv b2), (3, true, pv b3), (4, true, zi (d1)), (5, true, pv b5), (6, true, pv b6), (8, true, pv b8), (9, true, zi (d18)), (10, true, zi (d20)), (11, true, zi (k : Int))]) (fun (k : Nat) (lb : Bd) (lA : Option Addr) (lc : Nat) => ([i3 b8 d13, i3 b6 d3, i3 b5 dm1, p87 b3 p, z93 b2] ++ BdE p lb lA lc)) (fun (k : Nat) (lb : Bd) (lA : Option Addr) (lc : Nat) => stepN (fun k => bnd (mSetCell ((32 + (16 * (k : Int)))) (d20)) fun _ =>
  mSetCell (((32 + (16 * (k : Int))) + 8)) (d18)) k bd20 = ((), lb) ∧ BdOk ((1 + 97) + 6 * k) lb ∧ k ≤ 8) (fun (k : Nat) (lb : Bd) (lA : Option Addr) (lc : Nat) => 8 - k) 0 bd20 A20 c20 ?_ ?_ ?_ ?_
 ·exact ⟨rfl, ok20.mono (by omega), by omega⟩
 ·exact (su (su (su (su (su (su (su (su (su (su sn))))))))))
 ·rfl
 intro k lb lA lc ⟨hst, okL, hle⟩
 refine AW.seq ?_
 refine rs (ym ?_)
 refine Y1 (Yv.lss rfl eV eV) (nl ?_)
 refine AW.cond rfl (fun h0t => ?_) (fun h0f => ?_)
 ·try replace h0t := odt h0t
  have hk : k < 8 := by omega
  refine AW.skip ?_
  refine AW.seq ?_
  refine AW.block ?_
  refine rs (yl ag_87 3 ?_)
  refine ym ?_
  refine Y1 (Yv.mulN_i64 rfl eV eV (fun hg => by omega)) ?_
  refine Y1 (Yv.addN_i64 rfl eV eV (fun hg => by omega)) ?_
  refine ym ?_
  refine cE ce_76 [i3 b8 d13, i3 b6 d3, i3 b5 dm1, p87 b3 p, z93 b2] (BdE p lb lA lc) rfl rfl rfl (cSetCell p ((1 + 97) + 6 * k) lb lA lc okL (by omega) ((32 + (16 * (k : Int)))) d20) ?_
  rintro t80 S80 ⟨d21, bd21, A21, c21, e21, ok21, rfl, rfl⟩
  refine nl ?_
  refine AW.region ?_
  refine yl ag_87 3 ?_
  refine ym ?_
  refine Y1 (Yv.mulN_i64 rfl eV eV (fun hg => by omega)) ?_
  refine Y1 (Yv.addN_i64 rfl eV eV (fun hg => by omega)) ?_
  refine Y1 (Yv.addN_i64 rfl eV eV (fun hg => by omega)) ?_
  refine ym ?_
  refine cE ce_76 [i3 b8 d13, i3 b6 d3, i3 b5 dm1, p87 b3 p, z93 b2] (BdE p bd21 A21 c21) rfl rfl rfl (cSetCell p (((1 + 97) + 6 * k) + 3) bd21 A21 c21 ok21 (by omega) (((32 + (16 * (k : Int))) + 8)) d18) ?_
  rintro t87 S87 ⟨d22, bd22, A22, c22, e22, ok22, rfl, rfl⟩
  refine nl ?_
  refine AW.region ?_
  refine ym ?_
  refine Y1 (Yv.addN_i64 rfl eV eV (fun hg => by omega)) ?_
  refine ya ?_
  refine ⟨k + 1, bd22, A22, c22, ⟨stepN_succ hst ((bq e21).trans (e22)), ok22.mono (by omega), by omega⟩, by omega, (su (su (su (su (su (su (su (su (su (su sn)))))))))), rfl⟩
 try replace h0f := odf h0f
 obtain rfl : k = 8 := by omega
 refine AW.exit ?_
 refine rs (yl ag_87 3 ?_)
 refine ym ?_
 refine cE ce_52 [i3 b8 d13, i3 b6 d3, i3 b5 dm1, p87 b3 p, z93 b2] (BdE p lb lA lc) rfl rfl rfl (cRet p ((1 + 97) + 6 * 8) lb lA lc okL (by omega) d18) ?_
 rintro t90 S90 ⟨d21, bd21, A21, c21, e21, ok21, rfl, rfl⟩
 refine nl ?_
 refine rs (yl ag_87 3 ?_)
 refine cE ce_35 [i3 b8 d13, i3 b6 d3, i3 b5 dm1, p87 b3 p, z93 b2] (BdE p bd21 A21 c21) rfl rfl rfl (cDone p bd21 A21 c21) ?_
 rintro t92 S92 ⟨rfl, rfl⟩
 refine AWL.storeBox (i := 4) rfl rfl rfl ag_93 rfl (E rfl rfl) (E rfl rfl) rfl rfl nB (nl ?_)
 refine AW.ret (retI (.cellA (i := 4) rfl ag_93 rfl rfl rfl .nil) ?_)
 show _ = T.agg (fnCells (fnB (mStartFn (bd0 [103, 99, 46, 115, 116, 97, 114, 116] 0)).2))
 rw [show mStartFn (bd0 [103, 99, 46, 115, 116, 97, 114, 116] 0) = ((), bd21) from (bq e1).trans ((bq e2).trans ((bq em0).trans ((bq em1).trans ((bq e3).trans ((bq e4).trans ((bq e5).trans ((bq e6).trans ((bq e7).trans ((bq e8).trans ((bq e9).trans ((bq e10).trans ((bq e11).trans ((bq e12).trans ((bq e13).trans ((bq e14).trans ((bq e15).trans ((bq e16).trans ((bq e17).trans ((bq e18).trans ((bq e19).trans ((bq e20).trans ((bq hst).trans (e21)))))))))))))))))))))))]
 rfl

theorem cStartFn : ACalls Tryz.prog 54 [zi 1] [] (fun t S => t = .agg (fnCells fStartFn) ∧ S = []) := (cStartFn_).less fun t S' h => ⟨[], List.nil_sublist _, h, rfl⟩
def mSizeFn : BM Unit :=
 bnd (mShr (0) (1)) fun d1 =>
 bnd (mAnd (d1) (15)) fun d2 =>
 bnd (mShr (0) (24)) fun d3 =>
 bnd (mShl (d3) (3)) fun d4 =>
 bnd (labelM) fun d5 =>
 bnd (stepN (fun k => mIfC (1) (d2) ((([2, 7, 3, 4] : List Int).getD k 0)) (d5)) 4) fun _ =>
 bnd (mAddC (d4) (8)) fun d6 =>
 bnd (mRet (d6)) fun _ =>
 bnd (mAt (d5)) fun _ =>
 bnd (mAddC (d3) (7)) fun d9 =>
 bnd (mShr (d9) (3)) fun d10 =>
 bnd (mShl (d10) (3)) fun d11 =>
 bnd (mAddC (d11) (8)) fun d12 =>
 mRet (d12)
def fSizeFn : Fn := fnB (mSizeFn (bd0 [103, 99, 46, 115, 105, 122, 101] 1)).2
set_option maxHeartbeats 16000000 in
theorem cSizeFn_  :
    ACalls Tryz.prog 60 [] [] (fun t S => t = .agg (fnCells (fSizeFn))) := by
 refine ACalls.intro Tryz.func60 rfl Tryz.ntmps60 nB rfl fun X w0 => ?_
 refine rs ?_
 refine AWL.allocOp rfl rfl (B rfl) rfl zc_93 (fun b0 => ?_)
 refine AWL.perm (List.perm_append_singleton _ _).symm (nl ?_)
 refine rs ?_
 refine cE ce_32 [z93 b0] [] rfl rfl rfl (cNew [103, 99, 46, 115, 105, 122, 101] 1) ?_
 rintro t9 S9 ⟨p, rfl, rfl⟩
 have ok0 : BdOk 1 (bd0 [103, 99, 46, 115, 105, 122, 101] 1) := ⟨by decide, by decide, by decide, by decide, by decide, by decide, by decide⟩
 refine ya ?_
 refine ra ?_
 refine rs (ym ?_)
 refine ym ?_
 refine ym ?_
 refine cE ce_74 [z93 b0] (BdE p (bd0 [103, 99, 46, 115, 105, 122, 101] 1) none 0) rfl rfl rfl (cShr p 1 (bd0 [103, 99, 46, 115, 105, 122, 101] 1) none 0 ok0 (by omega) 0 1) ?_
 rintro t13 S13 ⟨d1, bd1, A1, c1, e1, ok1, rfl, rfl⟩
 refine cE ce_100 [z93 b0] (BdE p bd1 A1 c1) rfl rfl rfl (cAnd p (1 + 4) bd1 A1 c1 ok1 (by omega) d1 15) ?_
 rintro t14 S14 ⟨d2, bd2, A2, c2, e2, ok2, rfl, rfl⟩
 refine ya ?_
 refine rs (ym ?_)
 refine ym ?_
 refine cE ce_74 [z93 b0] (BdE p bd2 A2 c2) rfl rfl rfl (cShr p (1 + 8) bd2 A2 c2 ok2 (by omega) 0 24) ?_
 rintro t17 S17 ⟨d3, bd3, A3, c3, e3, ok3, rfl, rfl⟩
 refine ya ?_
 refine rs (ym ?_)
 refine ym ?_
 refine cE ce_73 [z93 b0] (BdE p bd3 A3 c3) rfl rfl rfl (cShl p (1 + 12) bd3 A3 c3 ok3 (by omega) d3 3) ?_
 rintro t20 S20 ⟨d4, bd4, A4, c4, e4, ok4, rfl, rfl⟩
 refine ya ?_
 refine rs (ym ?_)
 refine cE ce_84 [z93 b0] (BdE p bd4 A4 c4) rfl rfl rfl (cLabel p (1 + 16) bd4 A4 c4 ok4 (by omega) ) ?_
 rintro t22 S22 ⟨d5, bd5, A5, c5, e5, ok5, rfl, rfl⟩
 refine ya ?_
 refine AW.seq ?_
 refine rs ?_
 refine AWL.buildSlice1 rfl rfl (B rfl) rfl el_161 rfl (evsC (E rfl rfl) (evsC (E rfl rfl) (evsC (E rfl rfl) (evsC (E rfl rfl) evs0)))) nB rfl rfl ?_
 refine Y1 (Yv.lenSl rfl so_161 (B rfl) eV len4) ?_
 refine ym (nl ?_)
 refine AW.block ?_
 refine AW.loop4 (fun (k : Nat) (lb : Bd) (lA : Option Addr) (lc : Nat) => [(0, true, pv b0), (1, true, pv p), (2, true, zi (0)), (3, true, zi (d2)), (4, true, zi (d3)), (5, true, zi (d4)), (6, true, zi (d5)), (23, true, .sl 1 (([2, 7, 3, 4] : List Int).map zi)), (24, true, zi (4)), (25, true, zi (k : Int))]) (fun (k : Nat) (lb : Bd) (lA : Option Addr) (lc : Nat) => ([z93 b0] ++ BdE p lb lA lc)) (fun (k : Nat) (lb : Bd) (lA : Option Addr) (lc : Nat) => stepN (fun k => mIfC (1) (d2) ((([2, 7, 3, 4] : List Int).getD k 0)) (d5)) k bd5 = ((), lb) ∧ BdOk ((1 + 17) + 3 * k) lb ∧ k ≤ 4) (fun (k : Nat) (lb : Bd) (lA : Option Addr) (lc : Nat) => 4 - k) 0 bd5 A5 c5 ?_ ?_ ?_ ?_
 ·exact ⟨rfl, ok5.mono (by omega), by omega⟩
 ·exact (su (su (su (su (su (su (su (su (su (su sn))))))))))
 ·rfl
 intro k lb lA lc ⟨hst, okL, hle⟩
 refine rs (Y1 (Yv.lss rfl eV eV) (nl ?_))
 refine AW.seq ?_
 refine AW.cond rfl (fun h0t => ?_) (fun h0f => ?_)
 ·try replace h0t := odt h0t
  have hk : k < 4 := by omega
  refine AW.skip ?_
  refine AW.seq ?_
  refine AW.block ?_
  refine rs (Y1 (Yv.indexSl rfl ss_161 (B rfl) eV eV (fun hg => ⟨rfl, (by first | omega | (simp only [len4, len3, List.length_map, List.length_cons, List.length_nil]; omega))⟩)) ?_)
  refine Y1 (Yv.loadRp rfl ag_2 eV (fun hg => lit_at (l := [2, 7, 3, 4]) (by show k < 4; omega))) ?_
  refine ya ?_
  refine AW.region ?_
  refine ym ?_
  refine ym ?_
  refine ym ?_
  refine ym ?_
  refine cE ce_107 [z93 b0] (BdE p lb lA lc) rfl rfl rfl (cIfC p ((1 + 17) + 3 * k) lb lA lc okL (by omega) 1 d2 ((([2, 7, 3, 4] : List Int).getD k 0)) d5) ?_
  rintro t33 S33 ⟨d6, bd6, A6, c6, e6, ok6, rfl, rfl⟩
  refine nl ?_
  refine AW.region ?_
  refine Y1 (Yv.addN_i64 rfl eV eV (fun hg => by omega)) ?_
  refine ym (nl ?_)
  refine ⟨k + 1, bd6, A6, c6, ⟨stepN_succ hst (e6), ok6.mono (by omega), by omega⟩, by omega, (su (su (su (su (su (su (su (su (su (su sn)))))))))), rfl⟩
 try replace h0f := odf h0f
 obtain rfl : k = 4 := by omega
 refine AW.exit ?_
 refine rs (ym ?_)
 refine ym ?_
 refine ym ?_
 refine cE ce_93 [z93 b0] (BdE p lb lA lc) rfl rfl rfl (cAddC p ((1 + 17) + 3 * 4) lb lA lc okL (by omega) d4 8) ?_
 rintro t38 S38 ⟨d6, bd6, A6, c6, e6, ok6, rfl, rfl⟩
 refine cE ce_52 [z93 b0] (BdE p bd6 A6 c6) rfl rfl rfl (cRet p (((1 + 17) + 3 * 4) + 4) bd6 A6 c6 ok6 (by omega) d6) ?_
 rintro t39 S39 ⟨d7, bd7, A7, c7, e7, ok7, rfl, rfl⟩
 refine nl ?_
 refine rs (ym ?_)
 refine ym ?_
 refine cE ce_88 [z93 b0] (BdE p bd7 A7 c7) rfl rfl rfl (cAt p (((1 + 17) + 3 * 4) + 5) bd7 A7 c7 ok7 (by omega) d5) ?_
 rintro t42 S42 ⟨d8, bd8, A8, c8, e8, ok8, rfl, rfl⟩
 refine nl ?_
 refine rs (ym ?_)
 refine ym ?_
 refine ym ?_
 refine ym ?_
 refine ym ?_
 refine ym ?_
 refine cE ce_93 [z93 b0] (BdE p bd8 A8 c8) rfl rfl rfl (cAddC p (((1 + 17) + 3 * 4) + 6) bd8 A8 c8 ok8 (by omega) d3 7) ?_
 rintro t49 S49 ⟨d9, bd9, A9, c9, e9, ok9, rfl, rfl⟩
 refine cE ce_74 [z93 b0] (BdE p bd9 A9 c9) rfl rfl rfl (cShr p (((1 + 17) + 3 * 4) + 10) bd9 A9 c9 ok9 (by omega) d9 3) ?_
 rintro t50 S50 ⟨d10, bd10, A10, c10, e10, ok10, rfl, rfl⟩
 refine cE ce_73 [z93 b0] (BdE p bd10 A10 c10) rfl rfl rfl (cShl p (((1 + 17) + 3 * 4) + 14) bd10 A10 c10 ok10 (by omega) d10 3) ?_
 rintro t51 S51 ⟨d11, bd11, A11, c11, e11, ok11, rfl, rfl⟩
 refine cE ce_93 [z93 b0] (BdE p bd11 A11 c11) rfl rfl rfl (cAddC p (((1 + 17) + 3 * 4) + 18) bd11 A11 c11 ok11 (by omega) d11 8) ?_
 rintro t52 S52 ⟨d12, bd12, A12, c12, e12, ok12, rfl, rfl⟩
 refine cE ce_52 [z93 b0] (BdE p bd12 A12 c12) rfl rfl rfl (cRet p (((1 + 17) + 3 * 4) + 22) bd12 A12 c12 ok12 (by omega) d12) ?_
 rintro t53 S53 ⟨d13, bd13, A13, c13, e13, ok13, rfl, rfl⟩
 refine nl ?_
 refine rs (ym ?_)
 refine cE ce_35 [z93 b0] (BdE p bd13 A13 c13) rfl rfl rfl (cDone p bd13 A13 c13) ?_
 rintro t55 S55 ⟨rfl, rfl⟩
 refine AWL.storeBox (i := 0) rfl rfl rfl ag_93 rfl (E rfl rfl) (E rfl rfl) rfl rfl nB (nl ?_)
 refine AW.ret (retI (.cellA (i := 0) rfl ag_93 rfl rfl rfl .nil) ?_)
 show _ = T.agg (fnCells (fnB (mSizeFn (bd0 [103, 99, 46, 115, 105, 122, 101] 1)).2))
 rw [show mSizeFn (bd0 [103, 99, 46, 115, 105, 122, 101] 1) = ((), bd13) from (bq e1).trans ((bq e2).trans ((bq e3).trans ((bq e4).trans ((bq e5).trans ((bq hst).trans ((bq e6).trans ((bq e7).trans ((bq e8).trans ((bq e9).trans ((bq e10).trans ((bq e11).trans ((bq e12).trans (e13)))))))))))))]
 rfl

theorem cSizeFn : ACalls Tryz.prog 60 [] [] (fun t S => t = .agg (fnCells fSizeFn) ∧ S = []) := (cSizeFn_).less fun t S' h => ⟨[], List.nil_sublist _, h, rfl⟩
def mScanFn : BM Unit :=
 bnd (mGet (0) (0)) fun d1 =>
 bnd (mShr (d1) (1)) fun d2 =>
 bnd (mAnd (d2) (15)) fun d3 =>
 bnd (mCall ((1 + 6)) [d1]) fun d4 =>
 bnd (mAdd (0) (d4)) fun d5 =>
 bnd (mAddC (0) (8)) fun d6 =>
 bnd (labelM) fun d7 =>
 bnd (stepN (fun k => mIfC (1) (d3) ((([1, 5, 6] : List Int).getD k 0)) (d7)) 3) fun _ =>
 bnd (labelM) fun d8 =>
 bnd (mIfC (1) (d3) (8) (d8)) fun _ =>
 bnd (mRet (d5)) fun _ =>
 bnd (mAt (d8)) fun _ =>
 bnd (mIncr (d6) (8)) fun _ =>
 bnd (mAt (d7)) fun _ =>
 bnd (mWhile (5) (mScan1 (d6) (d5)) (mScan2 (d6))) fun _ =>
 mRet (d5)
def fScanFn : Fn := fnB (mScanFn (bd0 [103, 99, 46, 115, 99, 97, 110] 1)).2
set_option maxHeartbeats 16000000 in
theorem cScanFn_  :
    ACalls Tryz.prog 63 [zi 1] [] (fun t S => t = .agg (fnCells (fScanFn))) := by
 refine ACalls.intro Tryz.func63 rfl Tryz.ntmps63 nB rfl fun X w0 => ?_
 refine rs ?_
 refine AWL.boxOp rfl rfl (B rfl) rfl (E rfl rfl) rfl (fun b1 => ?_)
 refine AWL.perm (List.perm_append_singleton _ _).symm ?_
 refine AWL.allocOp rfl rfl (B rfl) rfl zc_93 (fun b2 => ?_)
 refine AWL.perm (List.perm_append_singleton _ _).symm (nl ?_)
 refine rs ?_
 refine cE ce_32 [z93 b2, i3 b1 1] [] rfl rfl rfl (cNew [103, 99, 46, 115, 99, 97, 110] 1) ?_
 rintro t14 S14 ⟨p, rfl, rfl⟩
 have ok0 : BdOk 1 (bd0 [103, 99, 46, 115, 99, 97, 110] 1) := ⟨by decide, by decide, by decide, by decide, by decide, by decide, by decide⟩
 refine AWL.allocOp rfl rfl (B rfl) rfl zc_87 (fun b3 => ?_)
 refine AWL.perm (List.perm_append_singleton _ _).symm ?_
 refine AWL.storeBox (i := 0) rfl rfl rfl ag_87 rfl (E rfl rfl) (E rfl rfl) rfl rfl nB (nl ?_)
 refine ra ?_
 refine rs (yl ag_87 0 ?_)
 refine ym ?_
 refine cE ce_99 [p87 b3 p, z93 b2, i3 b1 1] (BdE p (bd0 [103, 99, 46, 115, 99, 97, 110] 1) none 0) rfl rfl rfl (cGet p 1 (bd0 [103, 99, 46, 115, 99, 97, 110] 1) none 0 ok0 (by omega) 0 0) ?_
 rintro t17 S17 ⟨d1, bd1, A1, c1, e1, ok1, rfl, rfl⟩
 refine ya ?_
 refine AW.rseqH (HeldCs [(b3, 0, Value.pointer (some ⟨p, 0, none⟩)), (b1, 0, Value.int .i64 (1))]) rfl (tells_cs (tcB 0 rfl rfl pinV (tcB 2 rfl rfl pinV (tc0)))) ?_
 refine T2 (i := 0) rfl (heldB 0 rfl ag_87 (E rfl rfl) rfl (fun _ _ => .v _)) ?_
 refine T2 (i := 1) rfl (heldB 0 rfl ag_87 (E rfl rfl) rfl (fun _ _ => .v _)) ?_
 refine AWH.one (i := 2) (by kernel_rfl) rfl ?_
 refine ym ?_
 refine AWL.nil (kpH (tcB 0 rfl rfl pinV (tcB 2 rfl rfl pinV (tc0))) ?_)
 refine AWH.one (i := 3) (by kernel_rfl) rfl ?_
 refine cE ce_74 [p87 b3 p, z93 b2, i3 b1 1] (BdE p bd1 A1 c1) rfl rfl rfl (cShr p (1 + 2) bd1 A1 c1 ok1 (by omega) d1 1) ?_
 rintro t21 S21 ⟨d2, bd2, A2, c2, e2, ok2, rfl, rfl⟩
 refine AWL.nil (kpH (tcB 0 rfl rfl pinV (tcB 2 rfl rfl pinV (tc0))) ?_)
 refine AWH.one (i := 4) (by kernel_rfl) rfl ?_
 refine cE ce_100 [p87 b3 p, z93 b2, i3 b1 1] (BdE p bd2 A2 c2) rfl rfl rfl (cAnd p (1 + 6) bd2 A2 c2 ok2 (by omega) d2 15) ?_
 rintro t22 S22 ⟨d3, bd3, A3, c3, e3, ok3, rfl, rfl⟩
 refine AWL.nil (kpH (tcB 0 rfl rfl pinV (tcB 2 rfl rfl pinV (tc0))) ?_)
 refine AWH.one (i := 5) (by kernel_rfl) rfl ?_
 refine Y1 (Yv.assign rfl eV) ?_
 refine AWL.nil (kpH (tcB 0 rfl rfl pinV (tcB 2 rfl rfl pinV (tc0))) ?_)
 refine AWH.done (by kernel_rfl) ?_
 refine rs (yl ag_87 0 ?_)
 refine yl ag_3 2 ?_
 refine Y1 (Yv.addN_i64 rfl eV eV (fun hg => by omega)) ?_
 refine ym ?_
 refine AWL.buildSlice1 rfl rfl (B rfl) rfl el_35 rfl (evsC (E rfl rfl) evs0) nB rfl rfl ?_
 refine cE ce_33 [p87 b3 p, z93 b2, i3 b1 1] (BdE p bd3 A3 c3) rfl rfl rfl (cCall p (1 + 10) bd3 A3 c3 ok3 (by omega) ((1 + 6)) [d1]) ?_
 rintro t28 S28 ⟨d4, bd4, A4, c4, e4, ok4, rfl, rfl⟩
 refine ya ?_
 refine rs (yl ag_87 0 ?_)
 refine ym ?_
 refine ym ?_
 refine cE ce_83 [p87 b3 p, z93 b2, i3 b1 1] (BdE p bd4 A4 c4) rfl rfl rfl (cAdd p (1 + 12) bd4 A4 c4 ok4 (by omega) 0 d4) ?_
 rintro t32 S32 ⟨d5, bd5, A5, c5, e5, ok5, rfl, rfl⟩
 refine AWL.allocOp rfl rfl (B rfl) rfl zc_3 (fun b8 => ?_)
 refine AWL.perm (List.perm_append_singleton _ _).symm ?_
 refine AWL.storeBox (i := 0) rfl rfl rfl ag_3 rfl (E rfl rfl) (E rfl rfl) rfl rfl nB (nl ?_)
 refine rs (yl ag_87 1 ?_)
 refine ym ?_
 refine cE ce_93 [i3 b8 d5, p87 b3 p, z93 b2, i3 b1 1] (BdE p bd5 A5 c5) rfl rfl rfl (cAddC p (1 + 14) bd5 A5 c5 ok5 (by omega) 0 8) ?_
 rintro t35 S35 ⟨d6, bd6, A6, c6, e6, ok6, rfl, rfl⟩
 refine AWL.allocOp rfl rfl (B rfl) rfl zc_3 (fun b9 => ?_)
 refine AWL.perm (List.perm_append_singleton _ _).symm ?_
 refine AWL.storeBox (i := 0) rfl rfl rfl ag_3 rfl (E rfl rfl) (E rfl rfl) rfl rfl nB (nl ?_)
 refine rs (yl ag_87 2 ?_)
 refine cE ce_84 [i3 b9 d6, i3 b8 d5, p87 b3 p, z93 b2, i3 b1 1] (BdE p bd6 A6 c6) rfl rfl rfl (cLabel p (1 + 18) bd6 A6 c6 ok6 (by omega) ) ?_
 rintro t37 S37 ⟨d7, bd7, A7, c7, e7, ok7, rfl, rfl⟩
 refine ya ?_
 refine AW.seq ?_
 refine rs ?_
 refine AWL.buildSlice1 rfl rfl (B rfl) rfl el_161 rfl (evsC (E rfl rfl) (evsC (E rfl rfl) (evsC (E rfl rfl) evs0))) nB rfl rfl ?_
 refine Y1 (Yv.lenSl rfl so_161 (B rfl) eV len3) ?_
 refine ym (nl ?_)
 refine AW.block ?_
 refine AW.loop4 (fun (k : Nat) (lb : Bd) (lA : Option Addr) (lc : Nat) => [(0, true, zi (1)), (1, true, pv b1), (2, true, pv b2), (3, true, pv b3), (4, true, zi (0)), (5, true, zi (d1)), (6, true, zi (d3)), (7, true, zi (d4)), (8, true, pv b8), (9, true, pv b9), (10, true, zi (d7)), (38, true, .sl 1 (([1, 5, 6] : List Int).map zi)), (39, true, zi (3)), (40, true, zi (k : Int))]) (fun (k : Nat) (lb : Bd) (lA : Option Addr) (lc : Nat) => ([i3 b9 d6, i3 b8 d5, p87 b3 p, z93 b2, i3 b1 1] ++ BdE p lb lA lc)) (fun (k : Nat) (lb : Bd) (lA : Option Addr) (lc : Nat) => stepN (fun k => mIfC (1) (d3) ((([1, 5, 6] : List Int).getD k 0)) (d7)) k bd7 = ((), lb) ∧ BdOk ((1 + 19) + 3 * k) lb ∧ k ≤ 3) (fun (k : Nat) (lb : Bd) (lA : Option Addr) (lc : Nat) => 3 - k) 0 bd7 A7 c7 ?_ ?_ ?_ ?_
 ·exact ⟨rfl, ok7.mono (by omega), by omega⟩
 ·exact (su (su (su (su (su (su (su (su (su (su (su (su (su (su sn))))))))))))))
 ·rfl
 intro k lb lA lc ⟨hst, okL, hle⟩
 refine rs (Y1 (Yv.lss rfl eV eV) (nl ?_))
 refine AW.seq ?_
 refine AW.cond rfl (fun h0t => ?_) (fun h0f => ?_)
 ·try replace h0t := odt h0t
  have hk : k < 3 := by omega
  refine AW.skip ?_
  refine AW.seq ?_
  refine AW.block ?_
  refine rs (Y1 (Yv.indexSl rfl ss_161 (B rfl) eV eV (fun hg => ⟨rfl, (by first | omega | (simp only [len4, len3, List.length_map, List.length_cons, List.length_nil]; omega))⟩)) ?_)
  refine Y1 (Yv.loadRp rfl ag_2 eV (fun hg => lit_at (l := [1, 5, 6]) (by show k < 3; omega))) ?_
  refine ya ?_
  refine AW.region ?_
  refine yl ag_87 2 ?_
  refine ym ?_
  refine ym ?_
  refine ym ?_
  refine cE ce_107 [i3 b9 d6, i3 b8 d5, p87 b3 p, z93 b2, i3 b1 1] (BdE p lb lA lc) rfl rfl rfl (cIfC p ((1 + 19) + 3 * k) lb lA lc okL (by omega) 1 d3 ((([1, 5, 6] : List Int).getD k 0)) d7) ?_
  rintro t48 S48 ⟨d8, bd8, A8, c8, e8, ok8, rfl, rfl⟩
  refine nl ?_
  refine AW.region ?_
  refine Y1 (Yv.addN_i64 rfl eV eV (fun hg => by omega)) ?_
  refine ym (nl ?_)
  refine ⟨k + 1, bd8, A8, c8, ⟨stepN_succ hst (e8), ok8.mono (by omega), by omega⟩, by omega, (su (su (su (su (su (su (su (su (su (su (su (su (su (su sn)))))))))))))), rfl⟩
 try replace h0f := odf h0f
 obtain rfl : k = 3 := by omega
 refine AW.exit ?_
 refine rs (yl ag_87 2 ?_)
 refine cE ce_84 [i3 b9 d6, i3 b8 d5, p87 b3 p, z93 b2, i3 b1 1] (BdE p lb lA lc) rfl rfl rfl (cLabel p ((1 + 19) + 3 * 3) lb lA lc okL (by omega) ) ?_
 rintro t51 S51 ⟨d8, bd8, A8, c8, e8, ok8, rfl, rfl⟩
 refine ya ?_
 refine rs (yl ag_87 2 ?_)
 refine ym ?_
 refine ym ?_
 refine cE ce_107 [i3 b9 d6, i3 b8 d5, p87 b3 p, z93 b2, i3 b1 1] (BdE p bd8 A8 c8) rfl rfl rfl (cIfC p (((1 + 19) + 3 * 3) + 1) bd8 A8 c8 ok8 (by omega) 1 d3 8 d8) ?_
 rintro t55 S55 ⟨d9, bd9, A9, c9, e9, ok9, rfl, rfl⟩
 refine nl ?_
 refine rs (yl ag_87 2 ?_)
 refine yl ag_3 1 ?_
 refine cE ce_52 [i3 b9 d6, i3 b8 d5, p87 b3 p, z93 b2, i3 b1 1] (BdE p bd9 A9 c9) rfl rfl rfl (cRet p (((1 + 19) + 3 * 3) + 4) bd9 A9 c9 ok9 (by omega) d5) ?_
 rintro t58 S58 ⟨d10, bd10, A10, c10, e10, ok10, rfl, rfl⟩
 refine nl ?_
 refine rs (yl ag_87 2 ?_)
 refine ym ?_
 refine cE ce_88 [i3 b9 d6, i3 b8 d5, p87 b3 p, z93 b2, i3 b1 1] (BdE p bd10 A10 c10) rfl rfl rfl (cAt p (((1 + 19) + 3 * 3) + 5) bd10 A10 c10 ok10 (by omega) d8) ?_
 rintro t61 S61 ⟨d11, bd11, A11, c11, e11, ok11, rfl, rfl⟩
 refine nl ?_
 refine rs (yl ag_87 2 ?_)
 refine yl ag_3 0 ?_
 refine cE ce_79 [i3 b9 d6, i3 b8 d5, p87 b3 p, z93 b2, i3 b1 1] (BdE p bd11 A11 c11) rfl rfl rfl (cIncr p (((1 + 19) + 3 * 3) + 6) bd11 A11 c11 ok11 (by omega) d6 8) ?_
 rintro t64 S64 ⟨d12, bd12, A12, c12, e12, ok12, rfl, rfl⟩
 refine nl ?_
 refine rs (yl ag_87 2 ?_)
 refine ym ?_
 refine cE ce_88 [i3 b9 d6, i3 b8 d5, p87 b3 p, z93 b2, i3 b1 1] (BdE p bd12 A12 c12) rfl rfl rfl (cAt p (((1 + 19) + 3 * 3) + 9) bd12 A12 c12 ok12 (by omega) d7) ?_
 rintro t67 S67 ⟨d13, bd13, A13, c13, e13, ok13, rfl, rfl⟩
 refine nl ?_
 refine rs (yl ag_87 2 ?_)
 refine Y1 (Yv.makeFunc rfl evs0 rfl (evsC eV (evsC eV evs0)) rfl) ?_
 refine Y1 (Yv.makeFunc rfl evs0 rfl (evsC eV (evsC eV (evsC eV evs0))) rfl) ?_
 refine cA ce_96 rfl rfl rfl (cWhile p (((1 + 19) + 3 * 3) + 10) 8 0 bd13 A13 c13 ok13 (by omega) 5 115 116 #[.pointer (some ⟨b9, 0, none⟩), .pointer (some ⟨b8, 0, none⟩)] #[.pointer (some ⟨b3, 0, none⟩), .pointer (some ⟨b9, 0, none⟩), .pointer (some ⟨b1, 0, none⟩)] [i3 b9 d6, i3 b8 d5, p87 b3 p, z93 b2, i3 b1 1] (mScan1 d6 d5) (mScan2 d6) ce_115 ce_116 (fun bd9 A9 c9 ok9 => cScan1 p _ bd9 A9 c9 ok9 (by omega) [i3 b9 d6, i3 b8 d5, p87 b3 p, z93 b2, i3 b1 1] 0 b9 d6 rfl 1 b8 d5 rfl) (fun bd9 A9 c9 ok9 => cScan2 p _ bd9 A9 c9 ok9 (by omega) [i3 b9 d6, i3 b8 d5, p87 b3 p, z93 b2, i3 b1 1] 2 b3 rfl 0 b9 d6 rfl 4 b1 rfl)) ?_
 rintro t71 S71 ⟨rfl, bd14, A14, c14, e14, ok14, rfl⟩
 refine nl ?_
 refine rs (yl ag_87 2 ?_)
 refine yl ag_3 1 ?_
 refine cE ce_52 [i3 b9 d6, i3 b8 d5, p87 b3 p, z93 b2, i3 b1 1] (BdE p bd14 A14 c14) rfl rfl rfl (cRet p (((1 + 19) + 3 * 3) + 24) bd14 A14 c14 ok14 (by omega) d5) ?_
 rintro t74 S74 ⟨d15, bd15, A15, c15, e15, ok15, rfl, rfl⟩
 refine nl ?_
 refine rs (yl ag_87 2 ?_)
 refine cE ce_35 [i3 b9 d6, i3 b8 d5, p87 b3 p, z93 b2, i3 b1 1] (BdE p bd15 A15 c15) rfl rfl rfl (cDone p bd15 A15 c15) ?_
 rintro t76 S76 ⟨rfl, rfl⟩
 refine AWL.storeBox (i := 3) rfl rfl rfl ag_93 rfl (E rfl rfl) (E rfl rfl) rfl rfl nB (nl ?_)
 refine AW.ret (retI (.cellA (i := 3) rfl ag_93 rfl rfl rfl .nil) ?_)
 show _ = T.agg (fnCells (fnB (mScanFn (bd0 [103, 99, 46, 115, 99, 97, 110] 1)).2))
 rw [show mScanFn (bd0 [103, 99, 46, 115, 99, 97, 110] 1) = ((), bd15) from (bq e1).trans ((bq e2).trans ((bq e3).trans ((bq e4).trans ((bq e5).trans ((bq e6).trans ((bq e7).trans ((bq hst).trans ((bq e8).trans ((bq e9).trans ((bq e10).trans ((bq e11).trans ((bq e12).trans ((bq e13).trans ((bq e14).trans (e15)))))))))))))))]
 rfl

theorem cScanFn : ACalls Tryz.prog 63 [zi 1] [] (fun t S => t = .agg (fnCells fScanFn) ∧ S = []) := (cScanFn_).less fun t S' h => ⟨[], List.nil_sublist _, h, rfl⟩
def mCollectFn : BM Unit :=
 bnd (mCopy (0)) fun d1 =>
 bnd (mCell (8)) fun d2 =>
 bnd (mWhile (5) (mCollect1 (d2)) (mCollect2 (d2))) fun _ =>
 bnd (mCell (24)) fun d4 =>
 bnd (mCall ((1 + 8)) [d4]) fun d5 =>
 bnd (mSetCell (24) (d5)) fun _ =>
 bnd (stepN (fun k => bnd (mCell (((32 + (16 * (k : Int))) + 8))) fun d7 =>
 bnd (mCall ((1 + 8)) [d7]) fun d8 =>
 mSetCell (((32 + (16 * (k : Int))) + 8)) (d8)) 8) fun _ =>
 bnd (mCell (312)) fun d7 =>
 bnd (mWhile (5) (mCollect3 (d7)) (mCollect4 (d7))) fun _ =>
 bnd (mCell (312)) fun d9 =>
 bnd (mSetCell (320) (d9)) fun _ =>
 bnd (mWhile (5) (mCollect5 (d1)) (mCollect6 (d1))) fun _ =>
 mRetC (1)
def fCollectFn : Fn := fnB (mCollectFn (bd0 [103, 99, 46, 99, 111, 108, 108, 101, 99, 116] 1)).2
set_option maxHeartbeats 16000000 in
theorem cCollectFn_  :
    ACalls Tryz.prog 64 [zi 1] [] (fun t S => t = .agg (fnCells (fCollectFn))) := by
 refine ACalls.intro Tryz.func64 rfl Tryz.ntmps64 nB rfl fun X w0 => ?_
 refine rs ?_
 refine AWL.boxOp rfl rfl (B rfl) rfl (E rfl rfl) rfl (fun b1 => ?_)
 refine AWL.perm (List.perm_append_singleton _ _).symm ?_
 refine AWL.allocOp rfl rfl (B rfl) rfl zc_93 (fun b2 => ?_)
 refine AWL.perm (List.perm_append_singleton _ _).symm (nl ?_)
 refine rs ?_
 refine cE ce_32 [z93 b2, i3 b1 1] [] rfl rfl rfl (cNew [103, 99, 46, 99, 111, 108, 108, 101, 99, 116] 1) ?_
 rintro t8 S8 ⟨p, rfl, rfl⟩
 have ok0 : BdOk 1 (bd0 [103, 99, 46, 99, 111, 108, 108, 101, 99, 116] 1) := ⟨by decide, by decide, by decide, by decide, by decide, by decide, by decide⟩
 refine AWL.allocOp rfl rfl (B rfl) rfl zc_87 (fun b3 => ?_)
 refine AWL.perm (List.perm_append_singleton _ _).symm ?_
 refine AWL.storeBox (i := 0) rfl rfl rfl ag_87 rfl (E rfl rfl) (E rfl rfl) rfl rfl nB (nl ?_)
 refine rs (yl ag_87 0 ?_)
 refine cE ce_117 [p87 b3 p, z93 b2, i3 b1 1] (BdE p (bd0 [103, 99, 46, 99, 111, 108, 108, 101, 99, 116] 1) none 0) rfl rfl rfl (cCopy p 1 (bd0 [103, 99, 46, 99, 111, 108, 108, 101, 99, 116] 1) none 0 ok0 (by omega) 0) ?_
 rintro t10 S10 ⟨d1, bd1, A1, c1, e1, ok1, rfl, rfl⟩
 refine AWL.allocOp rfl rfl (B rfl) rfl zc_3 (fun b4 => ?_)
 refine AWL.perm (List.perm_append_singleton _ _).symm ?_
 refine AWL.storeBox (i := 0) rfl rfl rfl ag_3 rfl (E rfl rfl) (E rfl rfl) rfl rfl nB (nl ?_)
 refine rs (yl ag_87 1 ?_)
 refine cE ce_87 [i3 b4 d1, p87 b3 p, z93 b2, i3 b1 1] (BdE p bd1 A1 c1) rfl rfl rfl (cCell p (1 + 2) bd1 A1 c1 ok1 (by omega) 8) ?_
 rintro t12 S12 ⟨d2, bd2, A2, c2, e2, ok2, rfl, rfl⟩
 refine AWL.allocOp rfl rfl (B rfl) rfl zc_3 (fun b5 => ?_)
 refine AWL.perm (List.perm_append_singleton _ _).symm ?_
 refine AWL.storeBox (i := 0) rfl rfl rfl ag_3 rfl (E rfl rfl) (E rfl rfl) rfl rfl nB (nl ?_)
 refine rs (yl ag_87 2 ?_)
 refine Y1 (Yv.makeFunc rfl evs0 rfl (evsC eV (evsC eV evs0)) rfl) ?_
 refine Y1 (Yv.makeFunc rfl evs0 rfl (evsC eV (evsC eV (evsC eV evs0))) rfl) ?_
 refine cA ce_96 rfl rfl rfl (cWhile p (1 + 6) 8 4 bd2 A2 c2 ok2 (by omega) 5 118 119 #[.pointer (some ⟨b5, 0, none⟩), .pointer (some ⟨b3, 0, none⟩)] #[.pointer (some ⟨b3, 0, none⟩), .pointer (some ⟨b5, 0, none⟩), .pointer (some ⟨b1, 0, none⟩)] [i3 b5 d2, i3 b4 d1, p87 b3 p, z93 b2, i3 b1 1] (mCollect1 d2) (mCollect2 d2) ce_118 ce_119 (fun bd9 A9 c9 ok9 => cCollect1 p _ bd9 A9 c9 ok9 (by omega) [i3 b5 d2, i3 b4 d1, p87 b3 p, z93 b2, i3 b1 1] 0 b5 d2 rfl 2 b3 rfl) (fun bd9 A9 c9 ok9 => cCollect2 p _ bd9 A9 c9 ok9 (by omega) [i3 b5 d2, i3 b4 d1, p87 b3 p, z93 b2, i3 b1 1] 2 b3 rfl 0 b5 d2 rfl 4 b1 rfl)) ?_
 rintro t16 S16 ⟨rfl, bd3, A3, c3, e3, ok3, rfl⟩
 refine nl ?_
 refine AW.rseqH (HeldCs [(b5, 0, Value.int .i64 (d2)), (b4, 0, Value.int .i64 (d1)), (b3, 0, Value.pointer (some ⟨p, 0, none⟩)), (b1, 0, Value.int .i64 (1))]) rfl (tells_cs (tcB 0 rfl rfl pinV (tcB 1 rfl rfl pinV (tcB 2 rfl rfl pinV (tcB 4 rfl rfl pinV (tc0)))))) ?_
 refine T2 (i := 0) rfl (heldB 2 rfl ag_87 (E rfl rfl) rfl (fun _ _ => .v _)) ?_
 refine T2 (i := 1) rfl (heldB 2 rfl ag_87 (E rfl rfl) rfl (fun _ _ => .v _)) ?_
 refine T2 (i := 2) rfl (heldB 3 rfl ag_3 (E rfl rfl) rfl (fun _ _ => .v _)) ?_
 refine T2 (i := 3) rfl (heldAll (freeAddI rfl (E rfl rfl) (E rfl rfl) (by first | decide | omega))) ?_
 refine AWH.one (i := 4) (by kernel_rfl) rfl ?_
 refine yl ag_87 2 ?_
 refine AWL.nil (kpH (tcB 0 rfl rfl pinV (tcB 1 rfl rfl pinV (tcB 2 rfl rfl pinV (tcB 4 rfl rfl pinV (tc0))))) ?_)
 refine AWH.one (i := 5) (by kernel_rfl) rfl ?_
 refine cE ce_87 [i3 b5 d2, i3 b4 d1, p87 b3 p, z93 b2, i3 b1 1] (BdE p bd3 A3 c3) rfl rfl rfl (cCell p (1 + 24) bd3 A3 c3 ok3 (by omega) 24) ?_
 rintro t22 S22 ⟨d4, bd4, A4, c4, e4, ok4, rfl, rfl⟩
 refine AWL.nil (kpH (tcB 0 rfl rfl pinV (tcB 1 rfl rfl pinV (tcB 2 rfl rfl pinV (tcB 4 rfl rfl pinV (tc0))))) ?_)
 refine AWH.one (i := 6) (by kernel_rfl) rfl ?_
 refine AWL.buildSlice1 rfl rfl (B rfl) rfl el_35 rfl (evsC (E rfl rfl) evs0) nB rfl rfl ?_
 refine AWL.nil (kpH (tcB 0 rfl rfl pinV (tcB 1 rfl rfl pinV (tcB 2 rfl rfl pinV (tcB 4 rfl rfl pinV (tc0))))) ?_)
 refine AWH.one (i := 7) (by kernel_rfl) rfl ?_
 refine cE ce_33 [i3 b5 d2, i3 b4 d1, p87 b3 p, z93 b2, i3 b1 1] (BdE p bd4 A4 c4) rfl rfl rfl (cCall p (1 + 28) bd4 A4 c4 ok4 (by omega) ((1 + 8)) [d4]) ?_
 rintro t24 S24 ⟨d5, bd5, A5, c5, e5, ok5, rfl, rfl⟩
 refine AWL.nil (kpH (tcB 0 rfl rfl pinV (tcB 1 rfl rfl pinV (tcB 2 rfl rfl pinV (tcB 4 rfl rfl pinV (tc0))))) ?_)
 refine AWH.one (i := 8) (by kernel_rfl) rfl ?_
 refine cE ce_76 [i3 b5 d2, i3 b4 d1, p87 b3 p, z93 b2, i3 b1 1] (BdE p bd5 A5 c5) rfl rfl rfl (cSetCell p (1 + 30) bd5 A5 c5 ok5 (by omega) 24 d5) ?_
 rintro t25 S25 ⟨d6, bd6, A6, c6, e6, ok6, rfl, rfl⟩
 refine AWL.nil (kpH (tcB 0 rfl rfl pinV (tcB 1 rfl rfl pinV (tcB 2 rfl rfl pinV (tcB 4 rfl rfl pinV (tc0))))) ?_)
 refine AWH.done (by kernel_rfl) ?_
 refine AW.seq ?_
 refine ra ?_
 refine AW.block ?_
 refine AW.loop4 (fun (k : Nat) (lb : Bd) (lA : Option Addr) (lc : Nat) => [(0, true, zi (1)), (1, true, pv b1), (2, true, pv b2), (3, true, pv b3), (4, true, pv b4), (5, true, pv b5), (6, true, zi (k : Int))]) (fun (k : Nat) (lb : Bd) (lA : Option Addr) (lc : Nat) => ([i3 b5 d2, i3 b4 d1, p87 b3 p, z93 b2, i3 b1 1] ++ BdE p lb lA lc)) (fun (k : Nat) (lb : Bd) (lA : Option Addr) (lc : Nat) => stepN (fun k => bnd (mCell (((32 + (16 * (k : Int))) + 8))) fun d7 =>
  bnd (mCall ((1 + 8)) [d7]) fun d8 =>
  mSetCell (((32 + (16 * (k : Int))) + 8)) (d8)) k bd6 = ((), lb) ∧ BdOk ((1 + 33) + 9 * k) lb ∧ k ≤ 8) (fun (k : Nat) (lb : Bd) (lA : Option Addr) (lc : Nat) => 8 - k) 0 bd6 A6 c6 ?_ ?_ ?_ ?_
 ·exact ⟨rfl, ok6.mono (by omega), by omega⟩
 ·exact (su (su (su (su (su (su (su sn)))))))
 ·rfl
 intro k lb lA lc ⟨hst, okL, hle⟩
 refine AW.seq ?_
 refine rs (ym ?_)
 refine Y1 (Yv.lss rfl eV eV) (nl ?_)
 refine AW.cond rfl (fun h0t => ?_) (fun h0f => ?_)
 ·try replace h0t := odt h0t
  have hk : k < 8 := by omega
  refine AW.skip ?_
  refine AW.seq ?_
  refine AW.block ?_
  refine AW.regionH (HeldCs [(b5, 0, Value.int .i64 (d2)), (b4, 0, Value.int .i64 (d1)), (b3, 0, Value.pointer (some ⟨p, 0, none⟩)), (b1, 0, Value.int .i64 (1))]) rfl (tells_cs (tcB 0 rfl rfl pinV (tcB 1 rfl rfl pinV (tcB 2 rfl rfl pinV (tcB 4 rfl rfl pinV (tc0)))))) ?_
  refine T2 (i := 0) rfl (heldB 2 rfl ag_87 (E rfl rfl) rfl (fun _ _ => .v _)) ?_
  refine T2 (i := 1) rfl (heldAll (freeMove rfl (E rfl rfl))) ?_
  refine T2 (i := 2) rfl (heldAll (freeMulI rfl (E rfl rfl) (E rfl rfl) (by first | decide | omega))) ?_
  refine T2 (i := 3) rfl (heldAll (freeAddI rfl (E rfl rfl) (E rfl rfl) (by first | decide | omega))) ?_
  refine T2 (i := 4) rfl (heldAll (freeAddI rfl (E rfl rfl) (E rfl rfl) (by first | decide | omega))) ?_
  refine T2 (i := 5) rfl (heldB 2 rfl ag_87 (E rfl rfl) rfl (fun _ _ => .v _)) ?_
  refine T2 (i := 6) rfl (heldB 3 rfl ag_3 (E rfl rfl) rfl (fun _ _ => .v _)) ?_
  refine T2 (i := 7) rfl (heldAll (freeAddI rfl (E rfl rfl) (E rfl rfl) (by first | decide | omega))) ?_
  refine T2 (i := 8) rfl (heldB 2 rfl ag_87 (E rfl rfl) rfl (fun _ _ => .v _)) ?_
  refine AWH.one (i := 9) (by kernel_rfl) rfl ?_
  refine ym ?_
  refine AWL.nil (kpH (tcB 0 rfl rfl pinV (tcB 1 rfl rfl pinV (tcB 2 rfl rfl pinV (tcB 4 rfl rfl pinV (tc0))))) ?_)
  refine AWH.one (i := 10) (by kernel_rfl) rfl ?_
  refine Y1 (Yv.mulN_i64 rfl eV eV (fun hg => by omega)) ?_
  refine AWL.nil (kpH (tcB 0 rfl rfl pinV (tcB 1 rfl rfl pinV (tcB 2 rfl rfl pinV (tcB 4 rfl rfl pinV (tc0))))) ?_)
  refine AWH.one (i := 11) (by kernel_rfl) rfl ?_
  refine Y1 (Yv.addN_i64 rfl eV eV (fun hg => by omega)) ?_
  refine AWL.nil (kpH (tcB 0 rfl rfl pinV (tcB 1 rfl rfl pinV (tcB 2 rfl rfl pinV (tcB 4 rfl rfl pinV (tc0))))) ?_)
  refine AWH.one (i := 12) (by kernel_rfl) rfl ?_
  refine Y1 (Yv.addN_i64 rfl eV eV (fun hg => by omega)) ?_
  refine AWL.nil (kpH (tcB 0 rfl rfl pinV (tcB 1 rfl rfl pinV (tcB 2 rfl rfl pinV (tcB 4 rfl rfl pinV (tc0))))) ?_)
  refine AWH.one (i := 13) (by kernel_rfl) rfl ?_
  refine cE ce_87 [i3 b5 d2, i3 b4 d1, p87 b3 p, z93 b2, i3 b1 1] (BdE p lb lA lc) rfl rfl rfl (cCell p ((1 + 33) + 9 * k) lb lA lc okL (by omega) (((32 + (16 * (k : Int))) + 8))) ?_
  rintro t43 S43 ⟨d7, bd7, A7, c7, e7, ok7, rfl, rfl⟩
  refine AWL.nil (kpH (tcB 0 rfl rfl pinV (tcB 1 rfl rfl pinV (tcB 2 rfl rfl pinV (tcB 4 rfl rfl pinV (tc0))))) ?_)
  refine AWH.one (i := 14) (by kernel_rfl) rfl ?_
  refine AWL.buildSlice1 rfl rfl (B rfl) rfl el_35 rfl (evsC (E rfl rfl) evs0) nB rfl rfl ?_
  refine AWL.nil (kpH (tcB 0 rfl rfl pinV (tcB 1 rfl rfl pinV (tcB 2 rfl rfl pinV (tcB 4 rfl rfl pinV (tc0))))) ?_)
  refine AWH.one (i := 15) (by kernel_rfl) rfl ?_
  refine cE ce_33 [i3 b5 d2, i3 b4 d1, p87 b3 p, z93 b2, i3 b1 1] (BdE p bd7 A7 c7) rfl rfl rfl (cCall p (((1 + 33) + 9 * k) + 4) bd7 A7 c7 ok7 (by omega) ((1 + 8)) [d7]) ?_
  rintro t45 S45 ⟨d8, bd8, A8, c8, e8, ok8, rfl, rfl⟩
  refine AWL.nil (kpH (tcB 0 rfl rfl pinV (tcB 1 rfl rfl pinV (tcB 2 rfl rfl pinV (tcB 4 rfl rfl pinV (tc0))))) ?_)
  refine AWH.one (i := 16) (by kernel_rfl) rfl ?_
  refine cE ce_76 [i3 b5 d2, i3 b4 d1, p87 b3 p, z93 b2, i3 b1 1] (BdE p bd8 A8 c8) rfl rfl rfl (cSetCell p (((1 + 33) + 9 * k) + 6) bd8 A8 c8 ok8 (by omega) (((32 + (16 * (k : Int))) + 8)) d8) ?_
  rintro t46 S46 ⟨d9, bd9, A9, c9, e9, ok9, rfl, rfl⟩
  refine AWL.nil (kpH (tcB 0 rfl rfl pinV (tcB 1 rfl rfl pinV (tcB 2 rfl rfl pinV (tcB 4 rfl rfl pinV (tc0))))) ?_)
  refine AWH.done (by kernel_rfl) ?_
  refine AW.region ?_
  refine ym ?_
  refine Y1 (Yv.addN_i64 rfl eV eV (fun hg => by omega)) ?_
  refine ya ?_
  refine ⟨k + 1, bd9, A9, c9, ⟨stepN_succ hst ((bq e7).trans ((bq e8).trans (e9))), ok9.mono (by omega), by omega⟩, by omega, (su (su (su (su (su (su (su sn))))))), rfl⟩
 try replace h0f := odf h0f
 obtain rfl : k = 8 := by omega
 refine AW.exit ?_
 refine rs (yl ag_87 2 ?_)
 refine cE ce_87 [i3 b5 d2, i3 b4 d1, p87 b3 p, z93 b2, i3 b1 1] (BdE p lb lA lc) rfl rfl rfl (cCell p ((1 + 33) + 9 * 8) lb lA lc okL (by omega) 312) ?_
 rintro t48 S48 ⟨d7, bd7, A7, c7, e7, ok7, rfl, rfl⟩
 refine AWL.allocOp rfl rfl (B rfl) rfl zc_3 (fun b7 => ?_)
 refine AWL.perm (List.perm_append_singleton _ _).symm ?_
 refine AWL.storeBox (i := 0) rfl rfl rfl ag_3 rfl (E rfl rfl) (E rfl rfl) rfl rfl nB (nl ?_)
 refine rs (yl ag_87 3 ?_)
 refine Y1 (Yv.makeFunc rfl evs0 rfl (evsC eV (evsC eV evs0)) rfl) ?_
 refine Y1 (Yv.makeFunc rfl evs0 rfl (evsC eV (evsC eV (evsC eV evs0))) rfl) ?_
 refine cA ce_96 rfl rfl rfl (cWhile p (((1 + 33) + 9 * 8) + 4) 14 4 bd7 A7 c7 ok7 (by omega) 5 120 121 #[.pointer (some ⟨b7, 0, none⟩), .pointer (some ⟨b3, 0, none⟩)] #[.pointer (some ⟨b3, 0, none⟩), .pointer (some ⟨b7, 0, none⟩), .pointer (some ⟨b1, 0, none⟩)] [i3 b7 d7, i3 b5 d2, i3 b4 d1, p87 b3 p, z93 b2, i3 b1 1] (mCollect3 d7) (mCollect4 d7) ce_120 ce_121 (fun bd9 A9 c9 ok9 => cCollect3 p _ bd9 A9 c9 ok9 (by omega) [i3 b7 d7, i3 b5 d2, i3 b4 d1, p87 b3 p, z93 b2, i3 b1 1] 0 b7 d7 rfl 3 b3 rfl) (fun bd9 A9 c9 ok9 => cCollect4 p _ bd9 A9 c9 ok9 (by omega) [i3 b7 d7, i3 b5 d2, i3 b4 d1, p87 b3 p, z93 b2, i3 b1 1] 3 b3 rfl 0 b7 d7 rfl 5 b1 rfl)) ?_
 rintro t52 S52 ⟨rfl, bd8, A8, c8, e8, ok8, rfl⟩
 refine nl ?_
 refine AW.rseqH (HeldCs [(b7, 0, Value.int .i64 (d7)), (b5, 0, Value.int .i64 (d2)), (b4, 0, Value.int .i64 (d1)), (b3, 0, Value.pointer (some ⟨p, 0, none⟩)), (b1, 0, Value.int .i64 (1))]) rfl (tells_cs (tcB 0 rfl rfl pinV (tcB 1 rfl rfl pinV (tcB 2 rfl rfl pinV (tcB 3 rfl rfl pinV (tcB 5 rfl rfl pinV (tc0))))))) ?_
 refine T2 (i := 0) rfl (heldB 3 rfl ag_87 (E rfl rfl) rfl (fun _ _ => .v _)) ?_
 refine AWH.one (i := 1) (by kernel_rfl) rfl ?_
 refine yl ag_87 3 ?_
 refine AWL.nil (kpH (tcB 0 rfl rfl pinV (tcB 1 rfl rfl pinV (tcB 2 rfl rfl pinV (tcB 3 rfl rfl pinV (tcB 5 rfl rfl pinV (tc0)))))) ?_)
 refine AWH.one (i := 2) (by kernel_rfl) rfl ?_
 refine cE ce_87 [i3 b7 d7, i3 b5 d2, i3 b4 d1, p87 b3 p, z93 b2, i3 b1 1] (BdE p bd8 A8 c8) rfl rfl rfl (cCell p (((1 + 33) + 9 * 8) + 28) bd8 A8 c8 ok8 (by omega) 312) ?_
 rintro t55 S55 ⟨d9, bd9, A9, c9, e9, ok9, rfl, rfl⟩
 refine AWL.nil (kpH (tcB 0 rfl rfl pinV (tcB 1 rfl rfl pinV (tcB 2 rfl rfl pinV (tcB 3 rfl rfl pinV (tcB 5 rfl rfl pinV (tc0)))))) ?_)
 refine AWH.one (i := 3) (by kernel_rfl) rfl ?_
 refine cE ce_76 [i3 b7 d7, i3 b5 d2, i3 b4 d1, p87 b3 p, z93 b2, i3 b1 1] (BdE p bd9 A9 c9) rfl rfl rfl (cSetCell p (((1 + 33) + 9 * 8) + 32) bd9 A9 c9 ok9 (by omega) 320 d9) ?_
 rintro t56 S56 ⟨d10, bd10, A10, c10, e10, ok10, rfl, rfl⟩
 refine AWL.nil (kpH (tcB 0 rfl rfl pinV (tcB 1 rfl rfl pinV (tcB 2 rfl rfl pinV (tcB 3 rfl rfl pinV (tcB 5 rfl rfl pinV (tc0)))))) ?_)
 refine AWH.done (by kernel_rfl) ?_
 refine rs (yl ag_87 3 ?_)
 refine Y1 (Yv.makeFunc rfl evs0 rfl (evsC eV (evsC eV evs0)) rfl) ?_
 refine Y1 (Yv.makeFunc rfl evs0 rfl (evsC eV (evsC eV (evsC eV evs0))) rfl) ?_
 refine cA ce_96 rfl rfl rfl (cWhile p (((1 + 33) + 9 * 8) + 35) 3 4 bd10 A10 c10 ok10 (by omega) 5 122 123 #[.pointer (some ⟨b4, 0, none⟩), .pointer (some ⟨b3, 0, none⟩)] #[.pointer (some ⟨b3, 0, none⟩), .pointer (some ⟨b4, 0, none⟩), .pointer (some ⟨b1, 0, none⟩)] [i3 b7 d7, i3 b5 d2, i3 b4 d1, p87 b3 p, z93 b2, i3 b1 1] (mCollect5 d1) (mCollect6 d1) ce_122 ce_123 (fun bd9 A9 c9 ok9 => cCollect5 p _ bd9 A9 c9 ok9 (by omega) [i3 b7 d7, i3 b5 d2, i3 b4 d1, p87 b3 p, z93 b2, i3 b1 1] 2 b4 d1 rfl 3 b3 rfl) (fun bd9 A9 c9 ok9 => cCollect6 p _ bd9 A9 c9 ok9 (by omega) [i3 b7 d7, i3 b5 d2, i3 b4 d1, p87 b3 p, z93 b2, i3 b1 1] 3 b3 rfl 2 b4 d1 rfl 5 b1 rfl)) ?_
 rintro t60 S60 ⟨rfl, bd11, A11, c11, e11, ok11, rfl⟩
 refine nl ?_
 refine rs (yl ag_87 3 ?_)
 refine cE ce_34 [i3 b7 d7, i3 b5 d2, i3 b4 d1, p87 b3 p, z93 b2, i3 b1 1] (BdE p bd11 A11 c11) rfl rfl rfl (cRetC p (((1 + 33) + 9 * 8) + 48) bd11 A11 c11 ok11 (by omega) 1) ?_
 rintro t62 S62 ⟨d12, bd12, A12, c12, e12, ok12, rfl, rfl⟩
 refine nl ?_
 refine rs (yl ag_87 3 ?_)
 refine cE ce_35 [i3 b7 d7, i3 b5 d2, i3 b4 d1, p87 b3 p, z93 b2, i3 b1 1] (BdE p bd12 A12 c12) rfl rfl rfl (cDone p bd12 A12 c12) ?_
 rintro t64 S64 ⟨rfl, rfl⟩
 refine AWL.storeBox (i := 4) rfl rfl rfl ag_93 rfl (E rfl rfl) (E rfl rfl) rfl rfl nB (nl ?_)
 refine AW.ret (retI (.cellA (i := 4) rfl ag_93 rfl rfl rfl .nil) ?_)
 show _ = T.agg (fnCells (fnB (mCollectFn (bd0 [103, 99, 46, 99, 111, 108, 108, 101, 99, 116] 1)).2))
 rw [show mCollectFn (bd0 [103, 99, 46, 99, 111, 108, 108, 101, 99, 116] 1) = ((), bd12) from (bq e1).trans ((bq e2).trans ((bq e3).trans ((bq e4).trans ((bq e5).trans ((bq e6).trans ((bq hst).trans ((bq e7).trans ((bq e8).trans ((bq e9).trans ((bq e10).trans ((bq e11).trans (e12))))))))))))]
 rfl

theorem cCollectFn : ACalls Tryz.prog 64 [zi 1] [] (fun t S => t = .agg (fnCells fCollectFn) ∧ S = []) := (cCollectFn_).less fun t S' h => ⟨[], List.nil_sublist _, h, rfl⟩
end Go.Proofs.YtpgbpdnmjeoeoaaGreat.B

namespace Go.Proofs.YtpgbpdnmjeoeoaaGreat.B
open Go Go.RowKit

def mFullFn : BM Unit :=
 bnd (stepN (fun k => bnd (mC ((xr k 8))) fun d1 =>
 mSetCell ((384 + (8 * (k : Int)))) (d1)) 2) fun _ =>
 bnd (mC (2)) fun d1 =>
 bnd (mData (384)) fun d2 =>
 bnd (mC (13)) fun d3 =>
 bnd (mSys (1) [d1, d2, d3]) fun d4 =>
 bnd (mC (137)) fun d5 =>
 bnd (mSys (60) [d5]) fun d6 =>
 mRetC (1)
def fFullFn : Fn := fnB (mFullFn (bd0 [103, 99, 46, 102, 117, 108, 108] 0)).2
set_option maxHeartbeats 16000000 in
theorem cFullFn_  :
    ACalls Tryz.prog 59 [] [] (fun t S => t = .agg (fnCells (fFullFn))) := by
 refine ACalls.intro Tryz.func59 rfl Tryz.ntmps59 nB rfl fun X w0 => ?_
 refine rs ?_
 refine AWL.allocOp rfl rfl (B rfl) rfl zc_93 (fun b0 => ?_)
 refine AWL.perm (List.perm_append_singleton _ _).symm (nl ?_)
 refine rs ?_
 refine cE ce_32 [z93 b0] [] rfl rfl rfl (cNew [103, 99, 46, 102, 117, 108, 108] 0) ?_
 rintro t6 S6 ⟨p, rfl, rfl⟩
 have ok0 : BdOk 1 (bd0 [103, 99, 46, 102, 117, 108, 108] 0) := ⟨by decide, by decide, by decide, by decide, by decide, by decide, by decide⟩
 refine ya ?_
 refine ra ?_
 refine AW.seq ?_
 refine ra ?_
 refine AW.block ?_
 refine AW.loop4 (fun (k : Nat) (lb : Bd) (lA : Option Addr) (lc : Nat) => [(0, true, pv b0), (1, true, pv p), (2, true, sv [111, 117, 116, 32, 111, 102, 32, 109, 101, 109, 111, 114, 121, 0, 0, 0]), (3, true, zi (k : Int))]) (fun (k : Nat) (lb : Bd) (lA : Option Addr) (lc : Nat) => ([z93 b0] ++ BdE p lb lA lc)) (fun (k : Nat) (lb : Bd) (lA : Option Addr) (lc : Nat) => stepN (fun k => bnd (mC ((xr k 8))) fun d1 =>
  mSetCell ((384 + (8 * (k : Int)))) (d1)) k (bd0 [103, 99, 46, 102, 117, 108, 108] 0) = ((), lb) ∧ BdOk (1 + 5 * k) lb ∧ k ≤ 2) (fun (k : Nat) (lb : Bd) (lA : Option Addr) (lc : Nat) => 2 - k) 0 ((bd0 [103, 99, 46, 102, 117, 108, 108] 0)) none 0 ?_ ?_ ?_ ?_
 ·exact ⟨rfl, ok0.mono (by omega), by omega⟩
 ·exact (su (su (su (su sn))))
 ·rfl
 intro k lb lA lc ⟨hst, okL, hle⟩
 refine AW.seq ?_
 refine rs (ym ?_)
 refine Y1 (Yv.lss rfl eV eV) (nl ?_)
 refine AW.cond rfl (fun h0t => ?_) (fun h0f => ?_)
 ·try replace h0t := odt h0t
  have hk : k < 2 := by omega
  refine AW.skip ?_
  refine AW.seq ?_
  refine AW.block ?_
  refine ra ?_
  refine AW.seq ?_
  refine ra ?_
  refine AW.block ?_
  refine AW.loop (fun (r : Nat) => [(0, true, pv b0), (1, true, pv p), (2, true, sv msgB), (3, true, zi (k : Int)), (4, true, zi (xr k r)), (5, true, zi (7 - (r : Int)))]) (fun (r : Nat) => ([z93 b0] ++ BdE p lb lA lc)) (fun (r : Nat) => r ≤ 8) (fun (r : Nat) => 8 - r) 0 ?_ ?_ ?_ ?_
  ·exact Nat.zero_le _
  ·exact (su (su (su (su (su (su sn))))))
  ·rfl
  intro r hinv
  refine AW.seq ?_
  refine rs (ym ?_)
  refine Y1 (Yv.geq rfl eV eV) (nl ?_)
  refine AW.cond rfl (fun h1t => ?_) (fun h1f => ?_)
  ·try replace h1t := odt h1t
   have hr : r < 8 := by omega
   refine AW.skip ?_
   refine AW.seq ?_
   refine AW.block ?_
   refine AW.region ?_
   refine ym ?_
   refine Y1 (Yv.shlC 256 (by decide) (by decide) rfl (E rfl rfl) (E rfl rfl)) ?_
   refine ym ?_
   refine ym ?_
   refine Y1 (Yv.mulN_i64 rfl eV eV (fun hg => by omega)) ?_
   refine ym ?_
   refine Y1 (Yv.addN_i64 rfl eV eV (fun hg => by omega)) ?_
   refine Y1 (Yv.indexL rfl st_9 eV eV (j := 8 * k + (7 - r)) (fun hg => ⟨by omega, by show _ < 16; omega⟩)) ?_
   refine Y1 (Yv.convU8 rfl Tryz.underlying5 kd_2 rfl eV) ?_
   refine Y1 (Yv.bits rfl rfl eV eV) ?_
   refine ya ?_
   refine AW.region ?_
   refine ym ?_
   refine Y1 (Yv.subN_i64 rfl eV eV (fun hg => by omega)) ?_
   refine ya ?_
   exact ⟨r + 1, by omega, by omega, (su (su (su (su (su (Sub.cons rfl (congrArg zi (by omega)) Sub.nil)))))), rfl⟩
  try replace h1f := odf h1f
  obtain rfl : r = 8 := by omega
  refine AW.exit ?_
  refine AW.region ?_
  refine ym ?_
  refine ym ?_
  refine Y1 (Yv.mulN_i64 rfl eV eV (fun hg => by omega)) ?_
  refine Y1 (Yv.addN_i64 rfl eV eV (fun hg => by omega)) ?_
  refine ym ?_
  refine ym ?_
  refine cE ce_53 [z93 b0] (BdE p lb lA lc) rfl rfl rfl (cC p (1 + 5 * k) lb lA lc okL (by omega) ((xr k 8))) ?_
  rintro t31 S31 ⟨d1, bd1, A1, c1, e1, ok1, rfl, rfl⟩
  refine cE ce_76 [z93 b0] (BdE p bd1 A1 c1) rfl rfl rfl (cSetCell p ((1 + 5 * k) + 2) bd1 A1 c1 ok1 (by omega) ((384 + (8 * (k : Int)))) d1) ?_
  rintro t32 S32 ⟨d2, bd2, A2, c2, e2, ok2, rfl, rfl⟩
  refine nl ?_
  refine AW.region ?_
  refine ym ?_
  refine Y1 (Yv.addN_i64 rfl eV eV (fun hg => by omega)) ?_
  refine ya ?_
  refine ⟨k + 1, bd2, A2, c2, ⟨stepN_succ hst ((bq e1).trans (e2)), ok2.mono (by omega), by omega⟩, by omega, (su (su (su (su sn)))), rfl⟩
 try replace h0f := odf h0f
 obtain rfl : k = 2 := by omega
 refine AW.exit ?_
 refine rs (ym ?_)
 refine ym ?_
 refine cE ce_53 [z93 b0] (BdE p lb lA lc) rfl rfl rfl (cC p (1 + 5 * 2) lb lA lc okL (by omega) 2) ?_
 rintro t35 S35 ⟨d1, bd1, A1, c1, e1, ok1, rfl, rfl⟩
 refine ym ?_
 refine cE ce_106 [z93 b0] (BdE p bd1 A1 c1) rfl rfl rfl (cData p ((1 + 5 * 2) + 2) bd1 A1 c1 ok1 (by omega) 384) ?_
 rintro t37 S37 ⟨d2, bd2, A2, c2, e2, ok2, rfl, rfl⟩
 refine ym ?_
 refine cE ce_53 [z93 b0] (BdE p bd2 A2 c2) rfl rfl rfl (cC p ((1 + 5 * 2) + 4) bd2 A2 c2 ok2 (by omega) 13) ?_
 rintro t39 S39 ⟨d3, bd3, A3, c3, e3, ok3, rfl, rfl⟩
 refine AWL.buildSlice1 rfl rfl (B rfl) rfl el_35 rfl (evsC (E rfl rfl) (evsC (E rfl rfl) (evsC (E rfl rfl) evs0))) nB rfl rfl ?_
 refine cE ce_105 [z93 b0] (BdE p bd3 A3 c3) rfl rfl rfl (cSys p ((1 + 5 * 2) + 6) bd3 A3 c3 ok3 (by omega) 1 [d1, d2, d3]) ?_
 rintro t41 S41 ⟨d4, bd4, A4, c4, e4, ok4, rfl, rfl⟩
 refine nl ?_
 refine rs (ym ?_)
 refine ym ?_
 refine cE ce_53 [z93 b0] (BdE p bd4 A4 c4) rfl rfl rfl (cC p ((1 + 5 * 2) + 8) bd4 A4 c4 ok4 (by omega) 137) ?_
 rintro t44 S44 ⟨d5, bd5, A5, c5, e5, ok5, rfl, rfl⟩
 refine AWL.buildSlice1 rfl rfl (B rfl) rfl el_35 rfl (evsC (E rfl rfl) evs0) nB rfl rfl ?_
 refine cE ce_105 [z93 b0] (BdE p bd5 A5 c5) rfl rfl rfl (cSys p ((1 + 5 * 2) + 10) bd5 A5 c5 ok5 (by omega) 60 [d5]) ?_
 rintro t46 S46 ⟨d6, bd6, A6, c6, e6, ok6, rfl, rfl⟩
 refine nl ?_
 refine rs (ym ?_)
 refine cE ce_34 [z93 b0] (BdE p bd6 A6 c6) rfl rfl rfl (cRetC p ((1 + 5 * 2) + 12) bd6 A6 c6 ok6 (by omega) 1) ?_
 rintro t48 S48 ⟨d7, bd7, A7, c7, e7, ok7, rfl, rfl⟩
 refine nl ?_
 refine rs (ym ?_)
 refine cE ce_35 [z93 b0] (BdE p bd7 A7 c7) rfl rfl rfl (cDone p bd7 A7 c7) ?_
 rintro t50 S50 ⟨rfl, rfl⟩
 refine AWL.storeBox (i := 0) rfl rfl rfl ag_93 rfl (E rfl rfl) (E rfl rfl) rfl rfl nB (nl ?_)
 refine AW.ret (retI (.cellA (i := 0) rfl ag_93 rfl rfl rfl .nil) ?_)
 show _ = T.agg (fnCells (fnB (mFullFn (bd0 [103, 99, 46, 102, 117, 108, 108] 0)).2))
 rw [show mFullFn (bd0 [103, 99, 46, 102, 117, 108, 108] 0) = ((), bd7) from (bq hst).trans ((bq e1).trans ((bq e2).trans ((bq e3).trans ((bq e4).trans ((bq e5).trans ((bq e6).trans (e7)))))))]
 rfl

theorem cFullFn : ACalls Tryz.prog 59 [] [] (fun t S => t = .agg (fnCells fFullFn) ∧ S = []) := (cFullFn_).less fun t S' h => ⟨[], List.nil_sublist _, h, rfl⟩
def gcFns : List Fn := [fStartFn, fAllocFn, fMinorFn, fMajorFn, fMarkFn, fFullFn, fSizeFn, fCopiedFn, fForwardFn, fScanFn, fCollectFn]
set_option maxHeartbeats 4000000 in
theorem cFunctions  :
    ACalls Tryz.prog 36 [zi 1] [] (fun t S => t = .sl 5 (gcFns.flatMap fnCells) ∧ S = []) := by
 refine ACalls.intro Tryz.func36 rfl Tryz.ntmps36 nB rfl fun X w0 => ?_
 refine ra ?_
 refine rs (ym ?_)
 refine cE ce_54 [] [] rfl rfl rfl cStartFn ?_
 rintro t4 S4 ⟨rfl, rfl⟩
 refine ym ?_
 refine cE ce_55 [] [] rfl rfl rfl cAllocFn ?_
 rintro t6 S6 ⟨rfl, rfl⟩
 refine ym ?_
 refine cE ce_56 [] [] rfl rfl rfl cMinorFn ?_
 rintro t8 S8 ⟨rfl, rfl⟩
 refine ym ?_
 refine cE ce_57 [] [] rfl rfl rfl cMajorFn ?_
 rintro t10 S10 ⟨rfl, rfl⟩
 refine cE ce_58 [] [] rfl rfl rfl cMarkFn ?_
 rintro t11 S11 ⟨rfl, rfl⟩
 refine cE ce_59 [] [] rfl rfl rfl cFullFn ?_
 rintro t12 S12 ⟨rfl, rfl⟩
 refine cE ce_60 [] [] rfl rfl rfl cSizeFn ?_
 rintro t13 S13 ⟨rfl, rfl⟩
 refine ym ?_
 refine cE ce_61 [] [] rfl rfl rfl cCopiedFn ?_
 rintro t15 S15 ⟨rfl, rfl⟩
 refine ym ?_
 refine cE ce_62 [] [] rfl rfl rfl cForwardFn ?_
 rintro t17 S17 ⟨rfl, rfl⟩
 refine ym ?_
 refine cE ce_63 [] [] rfl rfl rfl cScanFn ?_
 rintro t19 S19 ⟨rfl, rfl⟩
 refine ym ?_
 refine cE ce_64 [] [] rfl rfl rfl cCollectFn ?_
 rintro t21 S21 ⟨rfl, rfl⟩
 refine AWL.buildSliceE rfl rfl (B rfl) rfl el_53 (B rfl) rfl (evsC (E rfl rfl) (evsC (E rfl rfl) (evsC (E rfl rfl) (evsC (E rfl rfl) (evsC (E rfl rfl) (evsC (E rfl rfl) (evsC (E rfl rfl) (evsC (E rfl rfl) (evsC (E rfl rfl) (evsC (E rfl rfl) (evsC (E rfl rfl) evs0))))))))))) nB rfl rfl ?_
 refine ya ?_
 refine AW.ret (retI (.tmp rfl .nil) ?_)
 exact ⟨rfl, rfl⟩

end Go.Proofs.YtpgbpdnmjeoeoaaGreat.B

namespace Go.Proofs.YtpgbpdnmjeoeoaaGreat.B
open Go Go.RowKit

def mMain : BM Unit := bnd (mCall 1 []) fun _ => mRetC 0
def fMain : Fn := fnB (mMain (bd0 [109, 97, 105, 110] 0)).2
def gcP : Prog := ⟨fMain :: gcFns, List.replicate 400 0, 0⟩
theorem zeros_data : (List.replicate 400 (([.int .u8 0] : List Value).map T.v)).flatten = (List.replicate 400 (0 : UInt8)).map u8 := by
 rw [List.map_replicate, List.map_cons, List.map_nil]
 exact flat_one _ _
set_option maxHeartbeats 16000000 in
theorem cProgram_  :
    ACalls Tryz.prog 18 [] [] (fun t S => t = .agg (progCells gcP)) := by
 refine ACalls.intro Tryz.func18 rfl Tryz.ntmps18 nB rfl fun X w0 => ?_
 refine rs ?_
 refine AWL.allocOp rfl rfl (B rfl) rfl zc_56 (fun b0 => ?_)
 refine AWL.perm (List.perm_append_singleton _ _).symm (nl ?_)
 refine rs ?_
 refine cE ce_32 [Ent.box b0 56 (([.slice none 0 0, .slice none 0 0, .int .i64 0] : List Value).map T.v)] [] rfl rfl rfl (cNew [109, 97, 105, 110] 0) ?_
 rintro t2 S2 ⟨p, rfl, rfl⟩
 have ok0 : BdOk 1 (bd0 [109, 97, 105, 110] 0) := ⟨by decide, by decide, by decide, by decide, by decide, by decide, by decide⟩
 refine ya ?_
 refine rs (ym ?_)
 refine cE ce_33 [Ent.box b0 56 (([.slice none 0 0, .slice none 0 0, .int .i64 0] : List Value).map T.v)] (BdE p (bd0 [109, 97, 105, 110] 0) none 0) rfl rfl rfl ((cCall p 1 (bd0 [109, 97, 105, 110] 0) none 0 ok0 (by omega) 1 []).le (.cons .refl (.cons .refl (.cons nilSl (.refl))))) ?_
 rintro t4 S4 ⟨d1, bd1, A1, c1, e1, ok1, rfl, rfl⟩
 refine nl ?_
 refine rs (ym ?_)
 refine cE ce_34 [Ent.box b0 56 (([.slice none 0 0, .slice none 0 0, .int .i64 0] : List Value).map T.v)] (BdE p bd1 A1 c1) rfl rfl rfl (cRetC p (1 + 2) bd1 A1 c1 ok1 (by omega) 0) ?_
 rintro t6 S6 ⟨d2, bd2, A2, c2, e2, ok2, rfl, rfl⟩
 refine nl ?_
 refine AW.rseqH (HeldCs []) rfl (tells_cs tc0) ?_
 refine T2 (i := 0) rfl (heldAll (freeMove rfl (E rfl rfl))) ?_
 refine AWH.two (i := 1) (j := 5) (by kernel_rfl) rfl rfl ?_ ?_
 ·have hMain : fnB bd2 = fMain := by unfold fMain; rw [show mMain (bd0 [109, 97, 105, 110] 0) = ((), bd2) from (bq e1).trans e2]
  refine cE ce_35 [Ent.box b0 56 (([.slice none 0 0, .slice none 0 0, .int .i64 0] : List Value).map T.v)] (BdE p bd2 A2 c2) rfl rfl rfl (cDone p bd2 A2 c2) ?_
  rintro t8 S8 ⟨hD, rfl⟩
  rw [hMain] at hD
  subst hD
  refine AWL.nil (kpH tc0 ?_)
  refine AWH.three (i := 2) (j := 3) (k := 5) (by kernel_rfl) rfl rfl rfl ?_ ?_ ?_
  ·refine AWL.buildSliceRow rfl rfl (B rfl) rfl el_53 (B rfl) rfl (evsC (E rfl rfl) evs0) (by decide) rfl rfl (fun A9 => ?_)
   refine AWL.perm (List.perm_append_singleton _ _).symm ?_
   refine AWL.nil (kpH tc0 ?_)
   refine AWH.two (i := 3) (j := 5) (by kernel_rfl) rfl rfl ?_ ?_
   ·refine cE ce_36 [Ent.row A9 1 1 93 5 (([.agg (fnCells fMain)] : List T).flatMap cellsT), Ent.box b0 56 (([.slice none 0 0, .slice none 0 0, .int .i64 0] : List Value).map T.v)] [] rfl rfl rfl cFunctions ?_
    rintro t10 S10 ⟨rfl, rfl⟩
    refine AWL.nil (kpH tc0 ?_)
    refine AWH.two (i := 4) (j := 5) (by kernel_rfl) rfl rfl ?_ ?_
    ·refine AWL.appendRow (i := 0) rfl rfl (B rfl) rfl el_53 (B rfl) rfl (E rfl rfl) (SrcT.sl (m := 11) so_53 (B rfl) (E rfl rfl) rfl) (by unfold maxLen; omega) (by omega) (fun A11 c11 => ?_)
     refine AWL.nil (kpH tc0 ?_)
     refine AWH.one (i := 5) (by kernel_rfl) rfl ?_
     refine AWL.makeRow (n := 400) (c := 400) rfl rfl (B rfl) rfl el_54 (E rfl rfl) (E rfl rfl) (Nat.le_refl _) (by omega) (by unfold maxLen; omega) (fun A12 => ?_)
     refine AWL.perm (List.perm_append_singleton _ _).symm ?_
     refine AWL.nil (kpH tc0 ?_)
     refine AWH.one (i := 6) (by kernel_rfl) rfl ?_
     refine Y1 (Yv.buildS rfl sh_56 (evpC eV (evpC eV evp0)) (fun _ => rfl)) ?_
     refine AWL.nil (kpH tc0 ?_)
     refine AWH.one (i := 7) (by kernel_rfl) rfl ?_
     refine AWL.storeBox (i := 2) rfl rfl rfl ag_56 rfl (E rfl rfl) (E rfl rfl) rfl rfl nB ?_
     refine AWL.nil (kpH tc0 ?_)
     refine AWH.done (by kernel_rfl) ?_
     refine AW.freezeCell 1 1 0 rfl (by decide) rfl rfl ?_
     refine AW.freezeCell 0 0 1 rfl (by decide) rfl rfl ?_
     refine AW.ret (retI (.cellA (i := 0) rfl ag_56 rfl rfl rfl .nil) ?_)
     refine congrArg T.agg ?_
     show [T.sl 5 _, T.sl 1 _, _] = [T.sl 5 _, T.sl 1 _, _]
     rw [zeros_data]
     try rfl
    refine AWL.makeRow (n := 400) (c := 400) rfl rfl (B rfl) rfl el_54 (E rfl rfl) (E rfl rfl) (Nat.le_refl _) (by omega) (by unfold maxLen; omega) (fun A12 => ?_)
    refine AWL.perm (List.perm_append_singleton _ _).symm ?_
    refine AWL.nil (kpH tc0 ?_)
    refine AWH.one (i := 4) (by kernel_rfl) rfl ?_
    refine AWL.appendRow (i := 1) rfl rfl (B rfl) rfl el_53 (B rfl) rfl (E rfl rfl) (SrcT.sl (m := 11) so_53 (B rfl) (E rfl rfl) rfl) (by unfold maxLen; omega) (by omega) (fun A11 c11 => ?_)
    refine AWL.nil (kpH tc0 ?_)
    refine AWH.one (i := 6) (by kernel_rfl) rfl ?_
    refine Y1 (Yv.buildS rfl sh_56 (evpC eV (evpC eV evp0)) (fun _ => rfl)) ?_
    refine AWL.nil (kpH tc0 ?_)
    refine AWH.one (i := 7) (by kernel_rfl) rfl ?_
    refine AWL.storeBox (i := 2) rfl rfl rfl ag_56 rfl (E rfl rfl) (E rfl rfl) rfl rfl nB ?_
    refine AWL.nil (kpH tc0 ?_)
    refine AWH.done (by kernel_rfl) ?_
    refine AW.freezeCell 1 1 0 rfl (by decide) rfl rfl ?_
    refine AW.freezeCell 0 0 1 rfl (by decide) rfl rfl ?_
    refine AW.ret (retI (.cellA (i := 0) rfl ag_56 rfl rfl rfl .nil) ?_)
    refine congrArg T.agg ?_
    show [T.sl 5 _, T.sl 1 _, _] = [T.sl 5 _, T.sl 1 _, _]
    rw [zeros_data]
    try rfl
   refine AWL.makeRow (n := 400) (c := 400) rfl rfl (B rfl) rfl el_54 (E rfl rfl) (E rfl rfl) (Nat.le_refl _) (by omega) (by unfold maxLen; omega) (fun A12 => ?_)
   refine AWL.perm (List.perm_append_singleton _ _).symm ?_
   refine AWL.nil (kpH tc0 ?_)
   refine AWH.one (i := 3) (by kernel_rfl) rfl ?_
   refine cE ce_36 [Ent.row A12 400 400 5 1 (List.replicate 400 (([.int .u8 0] : List Value).map T.v)).flatten, Ent.row A9 1 1 93 5 (([.agg (fnCells fMain)] : List T).flatMap cellsT), Ent.box b0 56 (([.slice none 0 0, .slice none 0 0, .int .i64 0] : List Value).map T.v)] [] rfl rfl rfl cFunctions ?_
   rintro t10 S10 ⟨rfl, rfl⟩
   refine AWL.nil (kpH tc0 ?_)
   refine AWH.one (i := 4) (by kernel_rfl) rfl ?_
   refine AWL.appendRow (i := 1) rfl rfl (B rfl) rfl el_53 (B rfl) rfl (E rfl rfl) (SrcT.sl (m := 11) so_53 (B rfl) (E rfl rfl) rfl) (by unfold maxLen; omega) (by omega) (fun A11 c11 => ?_)
   refine AWL.nil (kpH tc0 ?_)
   refine AWH.one (i := 6) (by kernel_rfl) rfl ?_
   refine Y1 (Yv.buildS rfl sh_56 (evpC eV (evpC eV evp0)) (fun _ => rfl)) ?_
   refine AWL.nil (kpH tc0 ?_)
   refine AWH.one (i := 7) (by kernel_rfl) rfl ?_
   refine AWL.storeBox (i := 2) rfl rfl rfl ag_56 rfl (E rfl rfl) (E rfl rfl) rfl rfl nB ?_
   refine AWL.nil (kpH tc0 ?_)
   refine AWH.done (by kernel_rfl) ?_
   refine AW.freezeCell 1 1 0 rfl (by decide) rfl rfl ?_
   refine AW.freezeCell 0 0 1 rfl (by decide) rfl rfl ?_
   refine AW.ret (retI (.cellA (i := 0) rfl ag_56 rfl rfl rfl .nil) ?_)
   refine congrArg T.agg ?_
   show [T.sl 5 _, T.sl 1 _, _] = [T.sl 5 _, T.sl 1 _, _]
   rw [zeros_data]
   try rfl
  ·refine cE ce_36 [Ent.box b0 56 (([.slice none 0 0, .slice none 0 0, .int .i64 0] : List Value).map T.v)] [] rfl rfl rfl cFunctions ?_
   rintro t10 S10 ⟨rfl, rfl⟩
   refine AWL.nil (kpH tc0 ?_)
   refine AWH.two (i := 2) (j := 5) (by kernel_rfl) rfl rfl ?_ ?_
   ·refine AWL.buildSliceRow rfl rfl (B rfl) rfl el_53 (B rfl) rfl (evsC (E rfl rfl) evs0) (by decide) rfl rfl (fun A9 => ?_)
    refine AWL.perm (List.perm_append_singleton _ _).symm ?_
    refine AWL.nil (kpH tc0 ?_)
    refine AWH.two (i := 4) (j := 5) (by kernel_rfl) rfl rfl ?_ ?_
    ·refine AWL.appendRow (i := 0) rfl rfl (B rfl) rfl el_53 (B rfl) rfl (E rfl rfl) (SrcT.sl (m := 11) so_53 (B rfl) (E rfl rfl) rfl) (by unfold maxLen; omega) (by omega) (fun A11 c11 => ?_)
     refine AWL.nil (kpH tc0 ?_)
     refine AWH.one (i := 5) (by kernel_rfl) rfl ?_
     refine AWL.makeRow (n := 400) (c := 400) rfl rfl (B rfl) rfl el_54 (E rfl rfl) (E rfl rfl) (Nat.le_refl _) (by omega) (by unfold maxLen; omega) (fun A12 => ?_)
     refine AWL.perm (List.perm_append_singleton _ _).symm ?_
     refine AWL.nil (kpH tc0 ?_)
     refine AWH.one (i := 6) (by kernel_rfl) rfl ?_
     refine Y1 (Yv.buildS rfl sh_56 (evpC eV (evpC eV evp0)) (fun _ => rfl)) ?_
     refine AWL.nil (kpH tc0 ?_)
     refine AWH.one (i := 7) (by kernel_rfl) rfl ?_
     refine AWL.storeBox (i := 2) rfl rfl rfl ag_56 rfl (E rfl rfl) (E rfl rfl) rfl rfl nB ?_
     refine AWL.nil (kpH tc0 ?_)
     refine AWH.done (by kernel_rfl) ?_
     refine AW.freezeCell 1 1 0 rfl (by decide) rfl rfl ?_
     refine AW.freezeCell 0 0 1 rfl (by decide) rfl rfl ?_
     refine AW.ret (retI (.cellA (i := 0) rfl ag_56 rfl rfl rfl .nil) ?_)
     refine congrArg T.agg ?_
     show [T.sl 5 _, T.sl 1 _, _] = [T.sl 5 _, T.sl 1 _, _]
     rw [zeros_data]
     try rfl
    refine AWL.makeRow (n := 400) (c := 400) rfl rfl (B rfl) rfl el_54 (E rfl rfl) (E rfl rfl) (Nat.le_refl _) (by omega) (by unfold maxLen; omega) (fun A12 => ?_)
    refine AWL.perm (List.perm_append_singleton _ _).symm ?_
    refine AWL.nil (kpH tc0 ?_)
    refine AWH.one (i := 4) (by kernel_rfl) rfl ?_
    refine AWL.appendRow (i := 1) rfl rfl (B rfl) rfl el_53 (B rfl) rfl (E rfl rfl) (SrcT.sl (m := 11) so_53 (B rfl) (E rfl rfl) rfl) (by unfold maxLen; omega) (by omega) (fun A11 c11 => ?_)
    refine AWL.nil (kpH tc0 ?_)
    refine AWH.one (i := 6) (by kernel_rfl) rfl ?_
    refine Y1 (Yv.buildS rfl sh_56 (evpC eV (evpC eV evp0)) (fun _ => rfl)) ?_
    refine AWL.nil (kpH tc0 ?_)
    refine AWH.one (i := 7) (by kernel_rfl) rfl ?_
    refine AWL.storeBox (i := 2) rfl rfl rfl ag_56 rfl (E rfl rfl) (E rfl rfl) rfl rfl nB ?_
    refine AWL.nil (kpH tc0 ?_)
    refine AWH.done (by kernel_rfl) ?_
    refine AW.freezeCell 1 1 0 rfl (by decide) rfl rfl ?_
    refine AW.freezeCell 0 0 1 rfl (by decide) rfl rfl ?_
    refine AW.ret (retI (.cellA (i := 0) rfl ag_56 rfl rfl rfl .nil) ?_)
    refine congrArg T.agg ?_
    show [T.sl 5 _, T.sl 1 _, _] = [T.sl 5 _, T.sl 1 _, _]
    rw [zeros_data]
    try rfl
   refine AWL.makeRow (n := 400) (c := 400) rfl rfl (B rfl) rfl el_54 (E rfl rfl) (E rfl rfl) (Nat.le_refl _) (by omega) (by unfold maxLen; omega) (fun A12 => ?_)
   refine AWL.perm (List.perm_append_singleton _ _).symm ?_
   refine AWL.nil (kpH tc0 ?_)
   refine AWH.one (i := 2) (by kernel_rfl) rfl ?_
   refine AWL.buildSliceRow rfl rfl (B rfl) rfl el_53 (B rfl) rfl (evsC (E rfl rfl) evs0) (by decide) rfl rfl (fun A9 => ?_)
   refine AWL.perm (List.perm_append_singleton _ _).symm ?_
   refine AWL.nil (kpH tc0 ?_)
   refine AWH.one (i := 4) (by kernel_rfl) rfl ?_
   refine AWL.appendRow (i := 0) rfl rfl (B rfl) rfl el_53 (B rfl) rfl (E rfl rfl) (SrcT.sl (m := 11) so_53 (B rfl) (E rfl rfl) rfl) (by unfold maxLen; omega) (by omega) (fun A11 c11 => ?_)
   refine AWL.nil (kpH tc0 ?_)
   refine AWH.one (i := 6) (by kernel_rfl) rfl ?_
   refine Y1 (Yv.buildS rfl sh_56 (evpC eV (evpC eV evp0)) (fun _ => rfl)) ?_
   refine AWL.nil (kpH tc0 ?_)
   refine AWH.one (i := 7) (by kernel_rfl) rfl ?_
   refine AWL.storeBox (i := 2) rfl rfl rfl ag_56 rfl (E rfl rfl) (E rfl rfl) rfl rfl nB ?_
   refine AWL.nil (kpH tc0 ?_)
   refine AWH.done (by kernel_rfl) ?_
   refine AW.freezeCell 0 1 0 rfl (by decide) rfl rfl ?_
   refine AW.freezeCell 0 0 1 rfl (by decide) rfl rfl ?_
   refine AW.ret (retI (.cellA (i := 0) rfl ag_56 rfl rfl rfl .nil) ?_)
   refine congrArg T.agg ?_
   show [T.sl 5 _, T.sl 1 _, _] = [T.sl 5 _, T.sl 1 _, _]
   rw [zeros_data]
   try rfl
  refine AWL.makeRow (n := 400) (c := 400) rfl rfl (B rfl) rfl el_54 (E rfl rfl) (E rfl rfl) (Nat.le_refl _) (by omega) (by unfold maxLen; omega) (fun A12 => ?_)
  refine AWL.perm (List.perm_append_singleton _ _).symm ?_
  refine AWL.nil (kpH tc0 ?_)
  refine AWH.two (i := 2) (j := 3) (by kernel_rfl) rfl rfl ?_ ?_
  ·refine AWL.buildSliceRow rfl rfl (B rfl) rfl el_53 (B rfl) rfl (evsC (E rfl rfl) evs0) (by decide) rfl rfl (fun A9 => ?_)
   refine AWL.perm (List.perm_append_singleton _ _).symm ?_
   refine AWL.nil (kpH tc0 ?_)
   refine AWH.one (i := 3) (by kernel_rfl) rfl ?_
   refine cE ce_36 [Ent.row A9 1 1 93 5 (([.agg (fnCells fMain)] : List T).flatMap cellsT), Ent.row A12 400 400 5 1 (List.replicate 400 (([.int .u8 0] : List Value).map T.v)).flatten, Ent.box b0 56 (([.slice none 0 0, .slice none 0 0, .int .i64 0] : List Value).map T.v)] [] rfl rfl rfl cFunctions ?_
   rintro t10 S10 ⟨rfl, rfl⟩
   refine AWL.nil (kpH tc0 ?_)
   refine AWH.one (i := 4) (by kernel_rfl) rfl ?_
   refine AWL.appendRow (i := 0) rfl rfl (B rfl) rfl el_53 (B rfl) rfl (E rfl rfl) (SrcT.sl (m := 11) so_53 (B rfl) (E rfl rfl) rfl) (by unfold maxLen; omega) (by omega) (fun A11 c11 => ?_)
   refine AWL.nil (kpH tc0 ?_)
   refine AWH.one (i := 6) (by kernel_rfl) rfl ?_
   refine Y1 (Yv.buildS rfl sh_56 (evpC eV (evpC eV evp0)) (fun _ => rfl)) ?_
   refine AWL.nil (kpH tc0 ?_)
   refine AWH.one (i := 7) (by kernel_rfl) rfl ?_
   refine AWL.storeBox (i := 2) rfl rfl rfl ag_56 rfl (E rfl rfl) (E rfl rfl) rfl rfl nB ?_
   refine AWL.nil (kpH tc0 ?_)
   refine AWH.done (by kernel_rfl) ?_
   refine AW.freezeCell 0 1 0 rfl (by decide) rfl rfl ?_
   refine AW.freezeCell 0 0 1 rfl (by decide) rfl rfl ?_
   refine AW.ret (retI (.cellA (i := 0) rfl ag_56 rfl rfl rfl .nil) ?_)
   refine congrArg T.agg ?_
   show [T.sl 5 _, T.sl 1 _, _] = [T.sl 5 _, T.sl 1 _, _]
   rw [zeros_data]
   try rfl
  refine cE ce_36 [Ent.row A12 400 400 5 1 (List.replicate 400 (([.int .u8 0] : List Value).map T.v)).flatten, Ent.box b0 56 (([.slice none 0 0, .slice none 0 0, .int .i64 0] : List Value).map T.v)] [] rfl rfl rfl cFunctions ?_
  rintro t10 S10 ⟨rfl, rfl⟩
  refine AWL.nil (kpH tc0 ?_)
  refine AWH.one (i := 2) (by kernel_rfl) rfl ?_
  refine AWL.buildSliceRow rfl rfl (B rfl) rfl el_53 (B rfl) rfl (evsC (E rfl rfl) evs0) (by decide) rfl rfl (fun A9 => ?_)
  refine AWL.perm (List.perm_append_singleton _ _).symm ?_
  refine AWL.nil (kpH tc0 ?_)
  refine AWH.one (i := 4) (by kernel_rfl) rfl ?_
  refine AWL.appendRow (i := 0) rfl rfl (B rfl) rfl el_53 (B rfl) rfl (E rfl rfl) (SrcT.sl (m := 11) so_53 (B rfl) (E rfl rfl) rfl) (by unfold maxLen; omega) (by omega) (fun A11 c11 => ?_)
  refine AWL.nil (kpH tc0 ?_)
  refine AWH.one (i := 6) (by kernel_rfl) rfl ?_
  refine Y1 (Yv.buildS rfl sh_56 (evpC eV (evpC eV evp0)) (fun _ => rfl)) ?_
  refine AWL.nil (kpH tc0 ?_)
  refine AWH.one (i := 7) (by kernel_rfl) rfl ?_
  refine AWL.storeBox (i := 2) rfl rfl rfl ag_56 rfl (E rfl rfl) (E rfl rfl) rfl rfl nB ?_
  refine AWL.nil (kpH tc0 ?_)
  refine AWH.done (by kernel_rfl) ?_
  refine AW.freezeCell 0 1 0 rfl (by decide) rfl rfl ?_
  refine AW.freezeCell 0 0 1 rfl (by decide) rfl rfl ?_
  refine AW.ret (retI (.cellA (i := 0) rfl ag_56 rfl rfl rfl .nil) ?_)
  refine congrArg T.agg ?_
  show [T.sl 5 _, T.sl 1 _, _] = [T.sl 5 _, T.sl 1 _, _]
  rw [zeros_data]
  try rfl
 refine AWL.makeRow (n := 400) (c := 400) rfl rfl (B rfl) rfl el_54 (E rfl rfl) (E rfl rfl) (Nat.le_refl _) (by omega) (by unfold maxLen; omega) (fun A12 => ?_)
 refine AWL.perm (List.perm_append_singleton _ _).symm ?_
 refine AWL.nil (kpH tc0 ?_)
 refine AWH.one (i := 1) (by kernel_rfl) rfl ?_
 have hMain : fnB bd2 = fMain := by unfold fMain; rw [show mMain (bd0 [109, 97, 105, 110] 0) = ((), bd2) from (bq e1).trans e2]
 refine cE ce_35 [Ent.row A12 400 400 5 1 (List.replicate 400 (([.int .u8 0] : List Value).map T.v)).flatten, Ent.box b0 56 (([.slice none 0 0, .slice none 0 0, .int .i64 0] : List Value).map T.v)] (BdE p bd2 A2 c2) rfl rfl rfl (cDone p bd2 A2 c2) ?_
 rintro t8 S8 ⟨hD, rfl⟩
 rw [hMain] at hD
 subst hD
 refine AWL.nil (kpH tc0 ?_)
 refine AWH.two (i := 2) (j := 3) (by kernel_rfl) rfl rfl ?_ ?_
 ·refine AWL.buildSliceRow rfl rfl (B rfl) rfl el_53 (B rfl) rfl (evsC (E rfl rfl) evs0) (by decide) rfl rfl (fun A9 => ?_)
  refine AWL.perm (List.perm_append_singleton _ _).symm ?_
  refine AWL.nil (kpH tc0 ?_)
  refine AWH.one (i := 3) (by kernel_rfl) rfl ?_
  refine cE ce_36 [Ent.row A9 1 1 93 5 (([.agg (fnCells fMain)] : List T).flatMap cellsT), Ent.row A12 400 400 5 1 (List.replicate 400 (([.int .u8 0] : List Value).map T.v)).flatten, Ent.box b0 56 (([.slice none 0 0, .slice none 0 0, .int .i64 0] : List Value).map T.v)] [] rfl rfl rfl cFunctions ?_
  rintro t10 S10 ⟨rfl, rfl⟩
  refine AWL.nil (kpH tc0 ?_)
  refine AWH.one (i := 4) (by kernel_rfl) rfl ?_
  refine AWL.appendRow (i := 0) rfl rfl (B rfl) rfl el_53 (B rfl) rfl (E rfl rfl) (SrcT.sl (m := 11) so_53 (B rfl) (E rfl rfl) rfl) (by unfold maxLen; omega) (by omega) (fun A11 c11 => ?_)
  refine AWL.nil (kpH tc0 ?_)
  refine AWH.one (i := 6) (by kernel_rfl) rfl ?_
  refine Y1 (Yv.buildS rfl sh_56 (evpC eV (evpC eV evp0)) (fun _ => rfl)) ?_
  refine AWL.nil (kpH tc0 ?_)
  refine AWH.one (i := 7) (by kernel_rfl) rfl ?_
  refine AWL.storeBox (i := 2) rfl rfl rfl ag_56 rfl (E rfl rfl) (E rfl rfl) rfl rfl nB ?_
  refine AWL.nil (kpH tc0 ?_)
  refine AWH.done (by kernel_rfl) ?_
  refine AW.freezeCell 0 1 0 rfl (by decide) rfl rfl ?_
  refine AW.freezeCell 0 0 1 rfl (by decide) rfl rfl ?_
  refine AW.ret (retI (.cellA (i := 0) rfl ag_56 rfl rfl rfl .nil) ?_)
  refine congrArg T.agg ?_
  show [T.sl 5 _, T.sl 1 _, _] = [T.sl 5 _, T.sl 1 _, _]
  rw [zeros_data]
  try rfl
 refine cE ce_36 [Ent.row A12 400 400 5 1 (List.replicate 400 (([.int .u8 0] : List Value).map T.v)).flatten, Ent.box b0 56 (([.slice none 0 0, .slice none 0 0, .int .i64 0] : List Value).map T.v)] [] rfl rfl rfl cFunctions ?_
 rintro t10 S10 ⟨rfl, rfl⟩
 refine AWL.nil (kpH tc0 ?_)
 refine AWH.one (i := 2) (by kernel_rfl) rfl ?_
 refine AWL.buildSliceRow rfl rfl (B rfl) rfl el_53 (B rfl) rfl (evsC (E rfl rfl) evs0) (by decide) rfl rfl (fun A9 => ?_)
 refine AWL.perm (List.perm_append_singleton _ _).symm ?_
 refine AWL.nil (kpH tc0 ?_)
 refine AWH.one (i := 4) (by kernel_rfl) rfl ?_
 refine AWL.appendRow (i := 0) rfl rfl (B rfl) rfl el_53 (B rfl) rfl (E rfl rfl) (SrcT.sl (m := 11) so_53 (B rfl) (E rfl rfl) rfl) (by unfold maxLen; omega) (by omega) (fun A11 c11 => ?_)
 refine AWL.nil (kpH tc0 ?_)
 refine AWH.one (i := 6) (by kernel_rfl) rfl ?_
 refine Y1 (Yv.buildS rfl sh_56 (evpC eV (evpC eV evp0)) (fun _ => rfl)) ?_
 refine AWL.nil (kpH tc0 ?_)
 refine AWH.one (i := 7) (by kernel_rfl) rfl ?_
 refine AWL.storeBox (i := 2) rfl rfl rfl ag_56 rfl (E rfl rfl) (E rfl rfl) rfl rfl nB ?_
 refine AWL.nil (kpH tc0 ?_)
 refine AWH.done (by kernel_rfl) ?_
 refine AW.freezeCell 0 1 0 rfl (by decide) rfl rfl ?_
 refine AW.freezeCell 0 0 1 rfl (by decide) rfl rfl ?_
 refine AW.ret (retI (.cellA (i := 0) rfl ag_56 rfl rfl rfl .nil) ?_)
 refine congrArg T.agg ?_
 show [T.sl 5 _, T.sl 1 _, _] = [T.sl 5 _, T.sl 1 _, _]
 rw [zeros_data]
 try rfl

theorem cProgram : ACalls Tryz.prog 18 [] [] (fun t S => t = .agg (progCells gcP) ∧ S = []) := cProgram_.less fun t S' h => ⟨[], List.nil_sublist _, h, rfl⟩
end Go.Proofs.YtpgbpdnmjeoeoaaGreat.B

namespace Go.Proofs.YtpgbpdnmjeoeoaaGreat.G
open Go Go.RowKit
def entM (m : Mc) (n : Nat) (args : List Wd64) : Mc := { m with c := { m.c with ent := true, st := 0, ans := 0#64, code := 0 }, x := openFr (m.c.prog.funs.getD n default) (n : Int) args 0, bl := [] }
theorem fname_at {l : List Fn} {j : Nat} (h : j < l.length) : (l.flatMap fnCells)[j * 5 + 0]? = some (sv (l.getD j default).name) := flat_at fk h 0 (by decide)
theorem dropE {a r : Ent} {F M K X : St} : (a :: (M ++ X)).Sublist (([a, r] ++ F) ++ (M ++ (K ++ X))) := by
 refine List.Sublist.cons_cons a ?_
 refine List.Sublist.cons r ?_
 refine List.Sublist.trans ?_ (List.sublist_append_right F _)
 exact (List.sublist_append_right K X).append_left M
theorem permE {a r : Ent} {X : St} : (a :: r :: X).Perm ((a :: X) ++ [r]) := ((List.perm_append_singleton r X).symm).cons a
theorem fn_regsG {p : Prog} {f : Nat} (hp : ProgOk p) (hf : f < p.funs.length) : 0 ≤ (p.funs.getD f default).regs ∧ (p.funs.getD f default).regs ≤ 65536 ∧ 0 ≤ (p.funs.getD f default).slots ∧ (p.funs.getD f default).slots ≤ 1048576 := by
 have h := hp.fn _ (getD_mem hf)
 have := h.par0
 have := h.par2
 exact ⟨by omega, h.regs, h.slot0, h.slot1⟩
theorem entM_ok {p : Prog} {m : Mc} (hp : ProgOk p) (hm : m.c.prog = p) {n : Nat} (hn : n < p.funs.length) {args : List Wd64} (ha : (args.length : Int) = (p.funs.getD n default).params) : MOk p (entM m n args) := by
 refine ⟨hm, ?_, fun y hy => (by cases hy), trivial, by show 0 < 1048576; decide⟩
 show FrIn p (openFr (m.c.prog.funs.getD n default) (n : Int) args 0)
 rw [hm]
 exact FrIn.open hp hn ha 0
def mostF (h : Wd64) : Int := 4000 + 40 * ((h / 8#64).toNat : Int)
theorem most_b {h : Wd64} (hh : h.toNat ≤ 1099511627776) : (h / 8#64).toNat ≤ 137438953472 := by
 rw [BitVec.toNat_udiv, show (8#64 : Wd64).toNat = 8 from rfl]
 omega
theorem nilW : Le (.v (.slice none 0 0)) (.sl 1 (([] : List Wd64).map zw)) := fun w L u h => by cases h; exact .sl0 (Nat.zero_le _)
end Go.Proofs.YtpgbpdnmjeoeoaaGreat.G

namespace Go.Proofs.YtpgbpdnmjeoeoaaGreat.G
open Go Go.RowKit

set_option maxHeartbeats 8000000 in
theorem Enter25_ (L : DLay) (p : Prog) (hp : ProgOk p) (hpi : ProgIn p) (m : Mc) (q : DQ) (hpr : m.c.prog = p) (name : List UInt8) (args : List Wd64) (n : Nat) (hn : n < p.funs.length) (hnm : (p.funs.getD n default).name = name) (hno : ∀ j, j < n → (p.funs.getD j default).name ≠ name) (ha : (args.length : Int) = (p.funs.getD n default).params) (hal : args.length ≤ 65536) :
    ACalls Tryz.prog 25 [pv L.s, sv name, .sl 1 (args.map zw)] (DP L m q) (fun t S => t = zi 0 ∧ ∃ g c a, S = DP L (entM m n args) ⟨g, c, a, [], q.l, q.ds, q.ob⟩) := by
 have hfr := fn_regsG hp hn
 have hpl := hpi.funs
 have hpm : (m.c.prog.funs.getD n default).params = (args.length : Int) := by rw [hpr]; exact ha.symm
 have hml : m.c.prog.funs.length = p.funs.length := by rw [hpr]
 have hfu : (psLD L m.c).prog.funs = p.funs := by show m.c.prog.funs = _; rw [hpr]
 refine ACalls.intro Tryz.func25 rfl Tryz.ntmps25 nB rfl fun X w0 => ?_
 refine ra ?_
 refine AW.seq ?_
 refine ra ?_
 refine AW.block ?_
 refine AW.loop (fun (j : Nat) => [(0, true, .v (.pointer (some ⟨L.s, 0, none⟩))), (1, true, sv name), (2, true, .sl 1 (args.map zw)), (7, true, zi (j : Int))]) (fun (j : Nat) => (([Ent.box L.s 75 (psD (psLD L m.c) q.ob (.v (.slice (some ⟨q.g, 0, none⟩) (q.K.length + 1) q.c))), Ent.row (some ⟨q.g, 0, none⟩) (q.K.length + 1) q.c 116 7 (rowD q.K ++ frD m.x q.a)] ++ frE m.x q.a) ++ (memD L q.l q.ds ++ (rowsF q.K ++ labF L m.c.prog)))) (fun (j : Nat) => j ≤ n) (fun (j : Nat) => n - j) 0 ?_ ?_ ?_ ?_
 ·exact Nat.zero_le _
 ·exact (su (su (su (su sn))))
 ·rfl
 intro j hinv
 have hjl : j < (psLD L m.c).prog.funs.length := by rw [hfu]; omega
 have hjn : (psLD L m.c).prog.funs.getD j default = p.funs.getD j default := by rw [hfu]
 refine AW.seq ?_
 refine rs (ym ?_)
 refine ym ?_
 refine Y1 (Yv.nilChk rfl eV) ?_
 refine yf fo_75_0 ?_
 refine yf fo_56_0 ?_
 refine yl ag_53 0 ?_
 refine Y1 (Yv.lenSl rfl so_53 (B rfl) eV len_funs) ?_
 refine Y1 (Yv.lss rfl eV eV) (nl ?_)
 refine AW.cond rfl (fun h0t => ?_) (fun h0f => ?_)
 ·try replace h0t := odt h0t
  refine AW.skip ?_
  refine AW.seq ?_
  refine AW.block ?_
  refine AW.seq ?_
  refine rs (ym ?_)
  refine Y1 (Yv.nilChk rfl eV) ?_
  refine yf fo_75_0 ?_
  refine yf fo_56_0 ?_
  refine yl ag_53 0 ?_
  refine ym ?_
  refine Y1 (Yv.indexSl rfl ss_53 (B rfl) eV eV (fun hg => ⟨rfl, (by first | omega | (simp only [len_funs, len_zw]; omega))⟩)) ?_
  refine Y1 (Yv.fieldRp rfl fo_93_0 eV) ?_
  refine Y1 (Yv.loadRp rfl ag_9 eV (fun hg => fname_at (by omega))) ?_
  refine ym ?_
  refine Y1 (Yv.neqL rfl eV eV) (nl ?_)
  refine AW.cond rfl (fun h1t => ?_) (fun h1f => ?_)
  ·try replace h1t := odt h1t
   replace h1t : ¬ ((psLD L m.c).prog.funs.getD j default).name = name := by simpa using h1t
   refine AW.exit ?_
   refine AW.region ?_
   refine ym ?_
   refine Y1 (Yv.addN_i64 rfl eV eV (fun hg => by omega)) ?_
   refine ya ?_
   have hlt : j < n := by
    rcases Nat.lt_or_ge j n with h | h
    ·exact h
    ·exfalso
     have e : j = n := by omega
     subst e
     apply h1t
     rw [hjn]; exact hnm
   refine ⟨j + 1, by omega, by omega, (su (su (su (su sn)))), rfl⟩
  try replace h1f := odf h1f
  replace h1f : ((psLD L m.c).prog.funs.getD j default).name = name := by simpa using h1f
  have hjj : j = n := by
   rcases Nat.lt_or_ge j n with h | h
   ·exact absurd (by rw [← hjn]; exact h1f) (hno j h)
   ·omega
  subst hjj
  refine AW.skip ?_
  refine AW.seq ?_
  refine rs (ym ?_)
  refine Y1 (Yv.nilChk rfl eV) ?_
  refine yf fo_75_0 ?_
  refine yf fo_56_0 ?_
  refine yl ag_53 0 ?_
  refine ym ?_
  refine Y1 (Yv.indexSl rfl ss_53 (B rfl) eV eV (fun hg => ⟨rfl, (by first | omega | (simp only [len_funs, len_zw]; omega))⟩)) ?_
  refine Y1 (Yv.fieldRp rfl fo_93_1 eV) ?_
  refine Y1 (Yv.loadRp rfl ag_3 eV (fun hg => fpar_at (by omega))) ?_
  refine ym ?_
  refine Y1 (Yv.lenSl rfl so_32 (B rfl) eV len_zw) ?_
  refine Y1 (Yv.neq rfl eV eV) (nl ?_)
  refine AW.cond rfl (fun h2t => ?_) (fun h2f => ?_)
  ·try replace h2t := odt h2t
   exfalso; simp only [Bool.not_eq_true', decide_eq_false_iff_not] at h2t; apply h2t; rw [hjn]; exact ha.symm
  try replace h2f := odf h2f
  have hjE : (psLD L (entM m j args).c).prog.funs.getD j default = p.funs.getD j default := by
   show m.c.prog.funs.getD j default = _
   rw [hpr]
  refine AW.skip ?_
  refine rs (ym ?_)
  refine Y1 (Yv.nilChk rfl eV) ?_
  refine yf fo_75_6 ?_
  refine AWL.storeBox (i := 0) rfl rfl rfl ag_73 rfl (E rfl rfl) (E rfl rfl) rfl rfl nB (nl ?_)
  refine rs (ym ?_)
  refine Y1 (Yv.nilChk rfl eV) ?_
  refine yf fo_75_7 ?_
  refine AWL.storeBox (i := 0) rfl rfl rfl ag_4 rfl (E rfl rfl) (E rfl rfl) rfl rfl nB (nl ?_)
  refine rs (ym ?_)
  refine Y1 (Yv.nilChk rfl eV) ?_
  refine yf fo_75_8 ?_
  refine AWL.storeBox (i := 0) rfl rfl rfl ag_3 rfl (E rfl rfl) (E rfl rfl) rfl rfl nB (nl ?_)
  refine rs (ym ?_)
  refine Y1 (Yv.nilChk rfl eV) ?_
  refine yf fo_75_9 ?_
  refine AWL.storeBox (i := 0) rfl rfl rfl ag_22 rfl (E rfl rfl) (E rfl rfl) rfl rfl nB (nl ?_)
  refine rs (ym ?_)
  refine Y1 (Yv.nilChk rfl eV) ?_
  refine yf fo_75_10 ?_
  refine AWL.storeBox (i := 0) rfl rfl rfl ag_3 rfl (E rfl rfl) (E rfl rfl) rfl rfl nB (nl ?_)
  refine AW.drop (S' := Ent.box L.s 75 (psD (psLD L (entM m j args).c) q.ob (.v (.slice none 0 0))) :: (memD L q.l q.ds ++ labF L m.c.prog)) dropE ?_
  refine AW.rowNil 116 7 ?_
  refine AW.perm (S' := [Ent.box L.s 75 (psD (psLD L (entM m j args).c) q.ob (.v (.slice none 0 0))), Ent.row none 0 0 116 7 []] ++ (memD L q.l q.ds ++ labF L m.c.prog)) permE ?_
  refine rs (ym ?_)
  refine ym ?_
  refine ym ?_
  refine AWL.callF rfl rfl (B rfl) rfl ce_40 (E rfl rfl) (evsC (E rfl rfl) (evsC (E rfl rfl) (evsC (E rfl rfl) (evsC (E rfl rfl) evs0)))) (F1 := []) (S1 := [Ent.box L.s 75 (psD (psLD L (entM m j args).c) q.ob (.v (.slice none 0 0))), Ent.row none 0 0 116 7 []]) (F2 := (memD L q.l q.ds ++ labF L m.c.prog)) rfl (Dopen43 L.s (psLD L (entM m j args).c) q.ob j args 0 none 0 0 [] hjl (by show m.c.prog.funs.length ≤ _; omega) (by rw [hjE]; exact hfr.1) (by rw [hjE]; exact hfr.2.1) (by rw [hjE]; exact hfr.2.2.1) (by rw [hjE]; exact hfr.2.2.2) (by rw [hjE]; have := (hp.fn _ (getD_mem hn)).par2; omega) (Nat.zero_le _)) ?_
  rintro t59 S59 ⟨rfl, g, c', a, rfl⟩
  refine nl ?_
  refine ra ?_
  refine AW.ret (retI (.tmp rfl .nil) ?_)
  exact ⟨rfl, g, c', a, rfl⟩
 try replace h0f := odf h0f
 exfalso; omega

set_option maxHeartbeats 400000 in
theorem Most27 (h : Wd64) (hh : h.toNat ≤ 1099511627776) :
    ACalls Tryz.prog 27 [zw h] [] (fun t S => t = zi (mostF h)) := by
 have hb := most_b hh
 refine ACalls.intro Tryz.func27 rfl Tryz.ntmps27 nB rfl fun X w0 => ?_
 refine ra ?_
 refine rs (ym ?_)
 refine Y1 (Yv.quoW (b := 8#64) rfl (E rfl rfl) (E rfl rfl) (by decide)) ?_
 refine Y1 (Yv.convN_i64 rfl Tryz.underlying22 kd_3 eV (fun hg => by omega)) ?_
 refine Y1 (Yv.mulN_i64 rfl eV eV (fun hg => by omega)) ?_
 refine Y1 (Yv.addN_i64 rfl eV eV (fun hg => by omega)) ?_
 refine ya ?_
 refine AW.ret (retI (.tmp rfl .nil) ?_)
 rfl

end Go.Proofs.YtpgbpdnmjeoeoaaGreat.G

namespace Go.Proofs.YtpgbpdnmjeoeoaaGreat.G
open Go Go.RowKit B
set_option maxRecDepth 100000
theorem gc_check : checkR gcP = 0 := by kernel_rfl
theorem gc_ok : ProgOk gcP := check_good gc_check
theorem gc_z : psData gcP = 400#64 := by kernel_rfl
theorem gc_len : gcP.funs.length = 12 := by kernel_rfl
section
variable {RF : Int → Wd64 → Wd64 → Wd64} {P : Prog} {h : Wd64} {e b : Bool} {w : V.PW} {s s' : Sy} {m : Mc} {obs : List Ob}
theorem srun_w (hz : psData P = 400#64) : ∀ {n : Nat} {bs : List Bool} {s s' : Sy} {acc obs : List Ob} {m : Mc}, Is P h e w s m → srun P h bs n s acc = some (s', obs) → (∀ o ∈ obs, o.ok) → ∀ j, j ≤ n → (runM RF j m).w = w
 | _, _, _, _, _, _, m, hm, _, _, 0, _ => hm.w
 | 0, _, _, _, _, _, m, hm, _, _, j + 1, hj => absurd hj (by omega)
 | n + 1, bs, s, s', acc, obs, m, hm, hr, ho, j + 1, hj => by
  rw [srun] at hr
  split at hr
  ·rename_i s2 h2
   obtain ⟨m1, r1, i1⟩ := sstep_ok (RF := RF) hz hm h2 (fun _ q => by cases q)
   rw [r1]
   exact srun_w hz i1 hr ho j (by omega)
  ·rename_i s2 obs2 _ h2
   obtain ⟨m1, r1, i1⟩ := sstep_ok (RF := RF) hz hm h2 (fun o q => ho o (srun_acc hr o (List.mem_append.2 (.inl q))))
   rw [r1]
   exact srun_w hz i1 hr ho j (by omega)
  ·cases hr
structure Ended (P : Prog) (h : Wd64) (w : V.PW) (c : Nat → Wd64) (v : Wd64) (m : Mc) : Prop where
 prog : m.c.prog = P
 heap : m.c.heap = h
 strict : m.c.strict = false
 st : m.c.st = 3
 ans : m.c.ans = v
 w : m.w = w
 c : Cells c m.mem
theorem ret_end (hm : Is P h true w s m) (hk : (insS P s.top).kind = 26) {v : SV} (hv : kn (insS P s.top).a.toNat s.top.ρ = some v) (hb : s.bl = []) : ∃ m', (∀ N, runM RF (N + 1) m = m') ∧ Ended P h w s.c v.val m' := by
 have hx := (adv_is hm).1
 have hA := hm.top.go (atS P s.top)
 rw [← hx] at hA
 obtain ⟨a1, a2⟩ := hA.rd hv
 have hbl := hm.bl
 rw [hb] at hbl
 cases hml : m.bl with
 | cons z l => rw [hml] at hbl; exact hbl.elim
 | nil =>
  have hst : stepM RF (advM m) (insS P s.top) = some { advM m with c := { m.c with st := 3, ans := v.val }, bl := [] } := by
   rw [stepB (by rw [rd_a (by rw [hk]; exact ⟨rfl, rfl, rfl⟩)]; exact ok_a a2) hk, a1]
   unfold backM
   rw [show (advM m).bl = [] from hml]
   unfold backC
   rw [if_pos (show (advM m).c.ent = true from hm.ent)]
   rfl
  refine ⟨tickC { advM m with c := { m.c with st := 3, ans := v.val }, bl := [] }, fun N => ?_, ⟨hm.prog, hm.heap, hm.strict, rfl, rfl, hm.w, hm.c⟩⟩
  rw [runM, if_neg (fun q => q hm.st), (adv_is hm).2, hst]
  exact runM_stop (show (3 : Int) ≠ 0 by decide) N
end
/-! ### entered -/
theorem ent_is {h : Wd64} {w : V.PW} {m : Mc} {c : Nat → Wd64} (hp : m.c.prog = gcP) (hh : m.c.heap = h) (hs : m.c.strict = false) (hw : m.w = w) (hc : Cells c m.mem) {n : Nat} {vs : List SV} (hl : vs.length ≤ (fnS gcP n).regs.toNat) : Is gcP h true w ⟨⟨n, 0, argsR 0 vs, 0⟩, [], c⟩ (entM m n (vs.map SV.val)) := by
 refine ⟨hp, hh, hs, rfl, rfl, hw, ?_, trivial, hc⟩
 show FrIs gcP (openFr (m.c.prog.funs.getD n default) (n : Int) (vs.map SV.val) 0) _
 rw [hp]
 exact open_is hl 0
/-! ### gc.start -/
def stS (h : Wd64) (b : Bool) (c : Nat → Wd64) : Option (Sy × List Ob) := srun gcP h [b] (bif b then 89 else 90) ⟨⟨1, 0, [], 0⟩, [], c⟩ []
def cellS (r : Option (Sy × List Ob)) (k : Nat) : Wd64 := match r with | some (s, _) => s.c k | none => 0
def symS (r : Option (Sy × List Ob)) : Sy := match r with | some (s, _) => s | none => ⟨⟨0, 0, [], 0⟩, [], fun _ => 0⟩
def prt (h : Wd64) : Wd64 := (h >>> (7#64 &&& 63#64).toNat) <<< (3#64 &&& 63#64).toNat
def held (h : Wd64) : Wd64 := prt h <<< (1#64 &&& 63#64).toNat
def botW (h : Wd64) : Wd64 := (((1073741824#64 + prt h * 2#64) + prt h * 4#64) + prt h * 4#64) + prt h * 2#64 + 64#64
def endW (h : Wd64) (b : Bool) : Wd64 := botW h + (bif b then held h else 16777216#64)
theorem st_some (h : Wd64) (b : Bool) (c : Nat → Wd64) : stS h b c = some (symS (stS h b c), [⟨4, held h, 16777216#64, b⟩]) := by
 cases b <;> kernel_rfl
theorem st_kind (h : Wd64) (b : Bool) (c : Nat → Wd64) : (insS gcP (symS (stS h b c)).top).kind = 26 ∧ kn (insS gcP (symS (stS h b c)).top).a.toNat (symS (stS h b c)).top.ρ = some (.wd 1#64) ∧ (symS (stS h b c)).bl = [] := by
 cases b <;> exact ⟨by kernel_rfl, by kernel_rfl, by kernel_rfl⟩
theorem st_cells (h : Wd64) (b : Bool) (c : Nat → Wd64) : (symS (stS h b c)).c 0 = botW h ∧ (symS (stS h b c)).c 1 = botW h ∧ (symS (stS h b c)).c 2 = endW h b ∧ (symS (stS h b c)).c 3 = 1#64 ∧ (∀ k, k < 8 → (symS (stS h b c)).c (4 + 2 * k) = 16777227#64 ∧ (symS (stS h b c)).c (5 + 2 * k) = 1#64) := by
 cases b <;> refine ⟨by kernel_rfl, by kernel_rfl, by kernel_rfl, by kernel_rfl, fun k hk => ?_⟩ <;>
  (match k, hk with
   | 0, _ => exact ⟨by kernel_rfl, by kernel_rfl⟩
   | 1, _ => exact ⟨by kernel_rfl, by kernel_rfl⟩
   | 2, _ => exact ⟨by kernel_rfl, by kernel_rfl⟩
   | 3, _ => exact ⟨by kernel_rfl, by kernel_rfl⟩
   | 4, _ => exact ⟨by kernel_rfl, by kernel_rfl⟩
   | 5, _ => exact ⟨by kernel_rfl, by kernel_rfl⟩
   | 6, _ => exact ⟨by kernel_rfl, by kernel_rfl⟩
   | 7, _ => exact ⟨by kernel_rfl, by kernel_rfl⟩
   | (n + 8), q => exact absurd q (by omega))
theorem heap_n {h : Wd64} (hh : h.toNat ≤ 1099511627776) : (prt h).toNat = h.toNat / 128 * 8 := by
 have e1 : (7#64 &&& 63#64 : Wd64).toNat = 7 := rfl
 have e2 : (3#64 &&& 63#64 : Wd64).toNat = 3 := rfl
 unfold prt
 rw [e1, e2, BitVec.toNat_shiftLeft, BitVec.toNat_ushiftRight, Nat.shiftRight_eq_div_pow, Nat.shiftLeft_eq]
 omega
def smallB (h : Wd64) : Bool := holdsF 4 (held h) 16777216#64
theorem start_run {h : Wd64} {w : V.PW} {m : Mc} {c : Nat → Wd64} (hp : m.c.prog = gcP) (hh : m.c.heap = h) (hs : m.c.strict = false) (hw : m.w = w) (hc : Cells c m.mem) :
    ∃ mR, (∀ N, 91 ≤ N → runM realF N (entM m 1 []) = mR) ∧ (∀ j, (runM realF j (entM m 1 [])).w = w) ∧ Ended gcP h w (symS (stS h (smallB h) c)).c 1#64 mR := by
 have hi : Is gcP h true w ⟨⟨1, 0, [], 0⟩, [], c⟩ (entM m 1 []) := ent_is (vs := []) hp hh hs hw hc (Nat.zero_le _)
 have hr := st_some h (smallB h) c
 have ho : ∀ o ∈ ([⟨4, held h, 16777216#64, smallB h⟩] : List Ob), o.ok := fun o q => by
  rw [List.mem_singleton.1 q]; rfl
 obtain ⟨m1, r1, i1⟩ := srun_ok (RF := realF) gc_z hi hr ho
 obtain ⟨k1, k2, k3⟩ := st_kind h (smallB h) c
 obtain ⟨mR, r2, e2⟩ := ret_end (RF := realF) i1 k1 k2 k3
 have hn : (bif smallB h then 89 else 90 : Nat) ≤ 90 := by cases smallB h <;> decide
 have hend : ∀ N, (bif smallB h then 89 else 90 : Nat) < N → runM realF N (entM m 1 []) = mR := fun N hN => by
  rw [show N = (N - (bif smallB h then 89 else 90 : Nat) - 1 + 1) + (bif smallB h then 89 else 90 : Nat) by omega, r1, r2]
 refine ⟨mR, fun N hN => hend N (by omega), fun j => ?_, e2⟩
 by_cases q : j ≤ (bif smallB h then 89 else 90 : Nat)
 ·exact srun_w gc_z hi hr ho j q
 rw [hend j (by omega)]; exact e2.w
end Go.Proofs.YtpgbpdnmjeoeoaaGreat.G

namespace Go.Proofs.YtpgbpdnmjeoeoaaGreat.G
open Go Go.RowKit B
set_option maxRecDepth 100000
def insB (i : Ins) : Bool := decide (-9223372036854775808 ≤ i.imm) && decide (i.imm ≤ 9223372036854775807) && decide (i.args.length ≤ 1048576)
def fnInB (f : Fn) : Bool := decide (-9223372036854775808 ≤ f.regs) && decide (f.regs ≤ 9223372036854775807) && decide (f.code.length ≤ 1048576) && f.code.all insB
theorem gc_fns : gcP.funs.all fnInB = true := by kernel_rfl
theorem gc_sum : decide ((gcP.funs.map fun f => f.code.length).sum ≤ 1048576) = true := by kernel_rfl
theorem gc_in : ProgIn gcP := by
 refine ⟨by rw [gc_len]; decide, by show (List.replicate 400 (0 : UInt8)).length ≤ _; rw [List.length_replicate]; decide, fun f hf => ?_, of_decide_eq_true gc_sum, by decide, by decide⟩
 have h := List.all_eq_true.1 gc_fns f hf
 unfold fnInB at h
 simp only [Bool.and_eq_true, decide_eq_true_eq, List.all_eq_true] at h
 obtain ⟨⟨⟨h1, h2⟩, h3⟩, h4⟩ := h
 refine ⟨h1, h2, h3, fun i hi => ?_⟩
 have g := h4 i hi
 unfold insB at g
 simp only [Bool.and_eq_true, decide_eq_true_eq] at g
 exact ⟨g.1.1, g.1.2, g.2⟩
def w00 : V.PW := ⟨[], [], V.opn0, []⟩
theorem side00 {ds : V.DS} (h1 : ds.stdin = []) (h2 : ds.opn = V.opn0) (h3 : ds.trace = []) (h4 : V.NI (V.nF []) (ds.files.map V.nb)) : V.Side w00 (V.pl ds) :=
 ⟨h1, h2, h3, h4.perm, h4.srt⟩
theorem rp0 (n : Nat) : V.RP n w00 := by
 refine ⟨⟨rfl, Nat.zero_le _, fun x hx => (by cases hx), fun f hf => (by cases hf), fun d hd => ?_, Nat.zero_le _, Nat.zero_le _⟩, ⟨rfl, fun d hd q => ?_⟩, List.nodup_nil, fun f hf => (by cases hf)⟩
 ·rw [(show ∀ d ∈ V.opn0, d.place = 0 by decide) d hd]; exact Nat.zero_le _
 exact absurd q ((show ∀ d ∈ V.opn0, ¬ (d.kind = 4 ∨ d.kind = 5) by decide) d hd)
theorem rp00 : V.RP 549755813888 w00 := rp0 _
def wordM (m : Mc) (a : Wd64) : Wd64 := if (sizeOk 8 && thereF (psData m.c.prog) m.c.heap a (wI 8)) = true then leF m.mem a 8 else 0#64
theorem permL {a r : Ent} {F M D X : St} : (([a, r] ++ F) ++ ((M ++ D) ++ X)).Perm ((a :: M) ++ ((r :: F) ++ (D ++ X))) := by
 show (a :: (r :: F ++ ((M ++ D) ++ X))).Perm (a :: (M ++ ((r :: F) ++ (D ++ X))))
 refine List.Perm.cons a ?_
 rw [List.append_assoc M D X]
 exact List.perm_append_comm_assoc _ _ _
theorem DLoadP {L : DLay} {p : Prog} {m : Mc} {q : DQ} (hp : ProgOk p) (hpi : ProgIn p) (hpr : m.c.prog = p) (hq : DRel m q) (a : Wd64) :
    ACalls Tryz.prog 22 [.v (.pointer (some ⟨L.s, 0, none⟩)), zw a, zi 8] (DP L m q) (fun t S => t = .tup [zw (wordM m a), bv (sizeOk 8 && thereF (psData m.c.prog) m.c.heap a (wI 8))] ∧ S = DP L m q) := by
 have h := DLoad20 L.s L.pg (psLD L m.c) q.ob (.v (.slice (some ⟨q.g, 0, none⟩) (q.K.length + 1) q.c)) q.l rfl hq.ok (by show m.c.prog.data.length ≤ _; rw [hpr]; exact hpi.data) (by show 0 ≤ m.c.prog.zero; rw [hpr]; exact hp.zero.1) (by show m.c.prog.zero ≤ _; rw [hpr]; exact hp.zero.2) a 8
 have e : (if (sizeOk 8 && thereF (psData (psLD L m.c).prog) (psLD L m.c).heap a (wI 8)) = true then leF (getM q.l) a (8 : Int).toNat else 0#64) = wordM m a := by
  unfold wordM; rw [hq.mem]; rfl
 rw [e] at h
 exact ACalls.keepIn _ h permL
theorem c_end {m mR : Mc} (h : DEnd m mR) : m.c = mR.c := by
 rcases h with rfl | ⟨_, at_, rfl⟩ <;> rfl
end Go.Proofs.YtpgbpdnmjeoeoaaGreat.G

namespace Go.Proofs.YtpgbpdnmjeoeoaaGreat.G
open Go Go.RowKit

set_option maxHeartbeats 400000 in
theorem Word8 (L : DLay) (p : Prog) (hp : ProgOk p) (hpi : ProgIn p) (m : Mc) (q : DQ) (hpr : m.c.prog = p) (hq : DRel m q) (a : Wd64) :
    ACalls Tryz.prog 8 [pv L.s, zw a] (DP L m q) (fun t S => t = zw (wordM m a) ∧ S = DP L m q) := by
 refine ACalls.intro Tryz.func8 rfl Tryz.ntmps8 nB rfl fun X w0 => ?_
 refine ra ?_
 refine rs (ym ?_)
 refine ym ?_
 refine cA ce_22 rfl rfl rfl (DLoadP hp hpi hpr hq a) ?_
 rintro t10 S10 ⟨rfl, rfl⟩
 refine ym ?_
 refine Y1 (Yv.extract rfl eV rfl) ?_
 refine Y1 (Yv.extract rfl eV rfl) ?_
 refine Y1 (Yv.assign rfl eV) ?_
 refine ya ?_
 refine rs (ym ?_)
 refine ya ?_
 refine AW.ret (retI (.tmp rfl .nil) ?_)
 exact ⟨rfl, rfl⟩

set_option maxHeartbeats 4000000 in
theorem Call13 (L : DLay) (p : Prog) (hp : ProgOk p) (hpi : ProgIn p) (m : Mc) (q : DQ) (hpr : m.c.prog = p) (hq : DRel m q) (hbs : L.bs.length = p.funs.length) (name : List UInt8) (args : List Wd64) (n : Nat) (hn : n < p.funs.length) (hnm : (p.funs.getD n default).name = name) (hno : ∀ j, j < n → (p.funs.getD j default).name ≠ name) (ha : (args.length : Int) = (p.funs.getD n default).params) (hal : args.length ≤ 65536) (hh : m.c.heap.toNat ≤ 1099511627776) (hs0 : 0 ≤ m.c.steps ∧ m.c.steps ≤ 4611686018427387904) (hW : ∀ j : Nat, V.RP 549755813888 (runM realF j (entM m n args)).w) :
    ACalls Tryz.prog 13 [pv L.s, sv name, .sl 1 (args.map zw)] (DP L m q) (fun t S => ∃ m2 q2, t = .tup [zw m2.c.ans, bv (decide (m2.c.st = 3))] ∧ DEnd m2 (runM realF (mostF m.c.heap).toNat (entM m n args)) ∧ DRel m2 q2 ∧ S = DP L m2 q2) := by
 have hb := most_b hh
 refine ACalls.intro Tryz.func13 rfl Tryz.ntmps13 nB rfl fun X w0 => ?_
 refine rs (Y1 (Yv.assign rfl eV) ?_)
 refine ya ?_
 refine rs (ym ?_)
 refine ym ?_
 refine ym ?_
 refine cA ce_25 rfl rfl rfl (Enter25_ L p hp hpi m q hpr name args n hn hnm hno ha hal) ?_
 rintro t13 S13 ⟨rfl, g, c, a, rfl⟩
 refine ya ?_
 refine AW.seq ?_
 refine rs (ym ?_)
 refine Y1 (Yv.neq rfl eV eV) (nl ?_)
 refine AW.cond rfl (fun h0t => ?_) (fun h0f => ?_)
 ·try replace h0t := odt h0t
  cases h0t
 try replace h0f := odf h0f
 refine AW.skip ?_
 refine rs (ym ?_)
 refine ym ?_
 refine Y1 (Yv.nilChk rfl eV) ?_
 refine yf fo_75_2 ?_
 refine yl ag_22 0 ?_
 refine AWL.callT rfl rfl (B rfl) rfl ce_27 (E rfl rfl) (evsC (E rfl rfl) evs0) (Most27 m.c.heap hh) ?_
 rintro t21 S21 rfl
 refine cA ce_26 rfl rfl rfl (Run13 L p hp hpi hbs (entM m n args) ⟨g, c, a, [], q.l, q.ds, q.ob⟩ (mostF m.c.heap) (entM_ok hp hpr hn ha) ⟨rfl, hq.ok, hq.mem, hq.w⟩ hW hs0 (by unfold mostF; omega)) ?_
 rintro t22 S22 ⟨m2, q2, rfl, hde, hq2, rfl⟩
 refine ya ?_
 refine rs (ym ?_)
 refine Y1 (Yv.nilChk rfl eV) ?_
 refine yf fo_75_9 ?_
 refine yl ag_22 0 ?_
 refine ym ?_
 refine Y1 (Yv.eql rfl eV eV) ?_
 refine Y1 (Yv.assign rfl eV) ?_
 refine ya ?_
 refine AW.ret (retI (.tmp rfl (.tmp rfl .nil)) ?_)
 exact ⟨m2, q2, rfl, hde, hq2, rfl⟩

end Go.Proofs.YtpgbpdnmjeoeoaaGreat.G

namespace Go.Proofs.YtpgbpdnmjeoeoaaGreat.G
open Go Go.RowKit B
set_option maxRecDepth 100000
theorem checkGc : ACalls Tryz.prog 19 [.agg (progCells gcP)] [] (fun t S => t = zi 0) := (Check7 gcP gc_in).mono fun t S h => by rw [h, gc_check]
theorem wt_le : Le (.agg [.v (.string ⟨#[]⟩), .v (.slice none 0 0)]) (V.worldT [] []) := Le.agg (.cons .refl (.cons (fun w L u h => by cases h; exact .sl0 (Nat.zero_le _)) .refl))
def nmStart : List UInt8 := [103, 99, 46, 115, 116, 97, 114, 116]
theorem st_name : (gcP.funs.getD 1 default).name = nmStart := by kernel_rfl
theorem st_no : ∀ j, j < 1 → (gcP.funs.getD j default).name ≠ nmStart := fun j hj => by
 obtain rfl : j = 0 := by omega
 rw [show (gcP.funs.getD 0 default).name = [109, 97, 105, 110] by kernel_rfl]
 decide
theorem st_par : ((([] : List Wd64).length : Nat) : Int) = (gcP.funs.getD 1 default).params := by kernel_rfl
theorem puts0 (a : Wd64) (t : List UInt8) (ht : ∀ j, t.getD j 0 = 0) : ∀ n z, putsN (fun _ => 0) a t n z = 0
 | 0, _ => rfl
 | n + 1, z => by
  rw [putsN, updM, ht]
  split
  ·rfl
  ·exact puts0 a t ht n z
theorem rep0 (n j : Nat) : (List.replicate n (0 : UInt8)).getD j 0 = 0 := by
 rw [List.getD_eq_getElem?_getD, List.getElem?_replicate]
 split <;> rfl
theorem le0 {m : Mf} (hm : ∀ z, m z = 0) (a : Wd64) : ∀ n, leF m a n = 0#64
 | 0 => rfl
 | n + 1 => by
  rw [leF, le0 hm a n, hm]
  have e : bw 0 = 0#64 := by decide
  rw [e]
  simp
theorem cells0 : Cells (fun _ => 0#64) (initM gcP) := fun k hk => le0 (puts0 _ _ (rep0 400) _) _ 8
theorem permN {b3 PX RX LR : Ent} {D F M MP : St} : (((([PX, RX] ++ F) ++ ((M ++ D) ++ ([] ++ (LR :: MP)))) ++ [b3])).Perm (([b3] ++ D) ++ ([LR] ++ (([PX, RX] ++ F) ++ (M ++ MP)))) := by
 refine (List.perm_append_comm (l₁ := ([PX, RX] ++ F) ++ ((M ++ D) ++ ([] ++ (LR :: MP)))) (l₂ := [b3])).trans ?_
 rw [List.append_assoc [b3] D]
 refine List.Perm.append_left [b3] ?_
 show (([PX, RX] ++ F) ++ ((M ++ D) ++ (LR :: MP))).Perm (D ++ (LR :: (([PX, RX] ++ F) ++ (M ++ MP))))
 refine List.Perm.trans ?_ (List.perm_middle (a := LR) (l₁ := D) (l₂ := ([PX, RX] ++ F) ++ (M ++ MP))).symm
 refine List.Perm.trans (l₂ := LR :: (([PX, RX] ++ F) ++ ((M ++ D) ++ MP))) ?_ ?_
 ·rw [← List.append_assoc ([PX, RX] ++ F) (M ++ D) (LR :: MP), ← List.append_assoc ([PX, RX] ++ F) (M ++ D) MP]
  exact List.perm_middle
 refine List.Perm.cons LR ?_
 rw [List.append_assoc M D MP]
 refine List.Perm.trans ?_ (List.perm_append_comm_assoc ([PX, RX] ++ F) D (M ++ MP))
 refine List.Perm.append_left ([PX, RX] ++ F) ?_
 exact List.perm_append_comm_assoc M D MP
theorem steps_run {m : Mc} (hm : MOk gcP m) (n : Nat) (h0 : 0 ≤ m.c.steps) : 0 ≤ (runM realF n m).c.steps ∧ (runM realF n m).c.steps ≤ m.c.steps + n := by
 have h := run_ok (RF := realF) gc_ok gc_in.funs n hm
 omega
end Go.Proofs.YtpgbpdnmjeoeoaaGreat.G

namespace Go.Proofs.YtpgbpdnmjeoeoaaGreat.G
open Go Go.RowKit

open B
set_option maxRecDepth 100000
set_option maxHeartbeats 4000000 in
theorem begun7 (h : Wd64) (hh : h.toNat ≤ 1099511627776) :
    ACalls Tryz.prog 7 [zw h] [] (fun t S => ∃ L m2 q2 mR, t = .v (.pointer (some ⟨L.s, 0, none⟩)) ∧ L.bs.length = gcP.funs.length ∧ DEnd m2 mR ∧ Ended gcP h w00 (symS (stS h (smallB h) (fun _ => 0#64))).c 1#64 mR ∧ DRel m2 q2 ∧ (0 ≤ m2.c.steps ∧ m2.c.steps ≤ 8000000000000) ∧ S = DP L m2 q2) := by
 obtain ⟨mR, hRn, hRw, hRe⟩ := start_run (h := h) (w := w00) (m := (newM gcP h false w00)) (c := fun _ => 0#64) rfl rfl rfl rfl cells0
 refine ACalls.intro Tryz.func7 rfl Tryz.ntmps7 nB rfl fun X w0 => ?_
 refine ra ?_
 refine rs ?_
 refine cE ce_18 [] [] rfl rfl rfl (B.cProgram) ?_
 rintro t7 S7 ⟨rfl, rfl⟩
 refine AWL.allocOp rfl rfl (B rfl) rfl zc_56 (fun b3 => ?_)
 refine AWL.perm (List.perm_append_singleton _ _).symm ?_
 refine AWL.storeBox (i := 0) rfl rfl rfl ag_56 rfl (E rfl rfl) (E rfl rfl) rfl rfl nB (nl ?_)
 refine AW.seq ?_
 refine rs (Y1 (Yv.loadBoxA rfl ag_56 (i := 0) rfl eV rfl rfl) ?_)
 refine AWL.callT rfl rfl (B rfl) rfl ce_19 (E rfl rfl) (evsC (E rfl rfl) evs0) (checkGc) ?_
 rintro t9 S9 rfl
 refine Y1 (Yv.neq rfl eV eV) (nl ?_)
 refine AW.cond rfl (fun h0t => ?_) (fun h0f => ?_)
 ·try replace h0t := odt h0t
  cases h0t
 try replace h0f := odf h0f
 refine AW.skip ?_
 refine AW.mid (α := DLay × DQ) (fun y => [(0, true, zw h), (3, true, pv b3), (4, true, .v (.pointer (some ⟨y.1.s, 0, none⟩)))]) (fun y => DP y.1 (newM gcP h false w00) y.2 ++ [Ent.box b3 56 (progCells gcP)]) (fun y => y.1.bs.length = gcP.funs.length ∧ DRel (newM gcP h false w00) y.2) ?_ ?_
 ·refine AW.regionP rfl ?_
  refine T1 (i := 1) rfl (freeMove rfl (E rfl rfl)) ?_
  refine AWP.two (i := 0) (j := 2) (by kernel_rfl) rfl rfl ?_ ?_
  ·refine Y1 (Yv.loadBoxA rfl ag_56 (i := 0) rfl eV rfl rfl) (nl ?_)
   refine p1 2 ?_
   refine Y1 (Yv.buildS rfl sh_64 evp0 (fun _ => rfl)) (nl ?_)
   refine p1 3 ?_
   refine cE ce_21 [Ent.box b3 56 (progCells gcP)] [] rfl rfl rfl ((V.DNew21 [] [] (Nat.zero_le _) (fun x hx => by cases hx) (fun x hx => by cases hx)).le (.cons wt_le .refl)) ?_
   rintro t14 S14 ⟨db, ds, rfl, rfl, hds, hdo, hdt, hdn⟩
   refine nl ?_
   refine p1 4 ?_
   refine AWL.callE rfl rfl (B rfl) rfl ce_20 (E rfl rfl) (evsC (E rfl rfl) (evsC (E rfl rfl) (evsC (E rfl rfl) (evsC (E rfl rfl) evs0)))) (F1 := ([Ent.box b3 56 (progCells gcP)] ++ V.DSt db ds)) (S1 := []) (List.append_nil _).symm (DNew35 gcP h false db gc_in gc_ok) ?_
   rintro t15 S15 ⟨b20, b18, gl, cc, bs, g, c2, a, l, rfl, hbs, hlo, hlm, rfl⟩
   refine AWL.perm (S' := DP ⟨b20, gl, cc, b18, db, bs⟩ (newM gcP h false w00) ⟨g, c2, a, [], l, ds, false⟩ ++ [Ent.box b3 56 (progCells gcP)]) permN (nl ?_)
   refine p1 5 ?_
   refine ya ?_
   refine AWP.done (by kernel_rfl) ?_
   exact ⟨(⟨b20, gl, cc, b18, db, bs⟩, ⟨g, c2, a, [], l, ds, false⟩), ⟨hbs, ⟨rfl, hlo, hlm, side00 hds hdo hdt hdn⟩⟩, (su (su (su sn))), rfl⟩
  refine Y1 (Yv.buildS rfl sh_64 evp0 (fun _ => rfl)) (nl ?_)
  refine AWP.two (i := 0) (j := 3) (by kernel_rfl) rfl rfl ?_ ?_
  ·refine Y1 (Yv.loadBoxA rfl ag_56 (i := 0) rfl eV rfl rfl) (nl ?_)
   refine p1 3 ?_
   refine cE ce_21 [Ent.box b3 56 (progCells gcP)] [] rfl rfl rfl ((V.DNew21 [] [] (Nat.zero_le _) (fun x hx => by cases hx) (fun x hx => by cases hx)).le (.cons wt_le .refl)) ?_
   rintro t14 S14 ⟨db, ds, rfl, rfl, hds, hdo, hdt, hdn⟩
   refine nl ?_
   refine p1 4 ?_
   refine AWL.callE rfl rfl (B rfl) rfl ce_20 (E rfl rfl) (evsC (E rfl rfl) (evsC (E rfl rfl) (evsC (E rfl rfl) (evsC (E rfl rfl) evs0)))) (F1 := ([Ent.box b3 56 (progCells gcP)] ++ V.DSt db ds)) (S1 := []) (List.append_nil _).symm (DNew35 gcP h false db gc_in gc_ok) ?_
   rintro t15 S15 ⟨b20, b18, gl, cc, bs, g, c2, a, l, rfl, hbs, hlo, hlm, rfl⟩
   refine AWL.perm (S' := DP ⟨b20, gl, cc, b18, db, bs⟩ (newM gcP h false w00) ⟨g, c2, a, [], l, ds, false⟩ ++ [Ent.box b3 56 (progCells gcP)]) permN (nl ?_)
   refine p1 5 ?_
   refine ya ?_
   refine AWP.done (by kernel_rfl) ?_
   exact ⟨(⟨b20, gl, cc, b18, db, bs⟩, ⟨g, c2, a, [], l, ds, false⟩), ⟨hbs, ⟨rfl, hlo, hlm, side00 hds hdo hdt hdn⟩⟩, (su (su (su sn))), rfl⟩
  refine cE ce_21 [Ent.box b3 56 (progCells gcP)] [] rfl rfl rfl ((V.DNew21 [] [] (Nat.zero_le _) (fun x hx => by cases hx) (fun x hx => by cases hx)).le (.cons wt_le .refl)) ?_
  rintro t14 S14 ⟨db, ds, rfl, rfl, hds, hdo, hdt, hdn⟩
  refine nl ?_
  refine p1 0 ?_
  refine Y1 (Yv.loadBoxA rfl ag_56 (i := 0) rfl eV rfl rfl) (nl ?_)
  refine p1 4 ?_
  refine AWL.callE rfl rfl (B rfl) rfl ce_20 (E rfl rfl) (evsC (E rfl rfl) (evsC (E rfl rfl) (evsC (E rfl rfl) (evsC (E rfl rfl) evs0)))) (F1 := ([Ent.box b3 56 (progCells gcP)] ++ V.DSt db ds)) (S1 := []) (List.append_nil _).symm (DNew35 gcP h false db gc_in gc_ok) ?_
  rintro t15 S15 ⟨b20, b18, gl, cc, bs, g, c2, a, l, rfl, hbs, hlo, hlm, rfl⟩
  refine AWL.perm (S' := DP ⟨b20, gl, cc, b18, db, bs⟩ (newM gcP h false w00) ⟨g, c2, a, [], l, ds, false⟩ ++ [Ent.box b3 56 (progCells gcP)]) permN (nl ?_)
  refine p1 5 ?_
  refine ya ?_
  refine AWP.done (by kernel_rfl) ?_
  exact ⟨(⟨b20, gl, cc, b18, db, bs⟩, ⟨g, c2, a, [], l, ds, false⟩), ⟨hbs, ⟨rfl, hlo, hlm, side00 hds hdo hdt hdn⟩⟩, (su (su (su sn))), rfl⟩
 rintro ⟨L, q⟩ ⟨hbs, hq⟩
 refine rs (ym ?_)
 refine AWL.callF rfl rfl (B rfl) rfl ce_13 (E rfl rfl) (evsC (E rfl rfl) (evsC (E rfl rfl) (evsC (E rfl rfl) evs0))) (F1 := []) (S1 := (DP L (newM gcP h false w00) q)) (F2 := [Ent.box b3 56 (progCells gcP)]) rfl ((Call13 L gcP gc_ok gc_in (newM gcP h false w00) q rfl hq hbs nmStart [] 1 (by rw [gc_len]; decide) st_name st_no st_par (Nat.zero_le _) hh ⟨(by show (0 : Int) ≤ 0; decide), (by show (0 : Int) ≤ 4611686018427387904; decide)⟩ (fun j => by rw [hRw j]; exact rp00)).le (.cons .refl (.cons .refl (.cons nilW .refl)))) ?_
 rintro t18 S18 ⟨m2, q2, rfl, hde, hq2, rfl⟩
 refine ym ?_
 refine Y1 (Yv.extract rfl eV rfl) ?_
 refine Y1 (Yv.extract rfl eV rfl) ?_
 refine Y1 (Yv.assign rfl eV) ?_
 refine ya ?_
 have hN : 91 ≤ (mostF h).toNat := by unfold mostF; omega
 replace hde : DEnd m2 mR := by have := hRn _ hN; rw [← this]; exact hde
 have hst : m2.c.st = 3 := by rw [c_end hde]; exact hRe.st
 have hsr := steps_run (entM_ok (m := (newM gcP h false w00)) (n := 1) (args := []) gc_ok rfl (by rw [gc_len]; decide) st_par) (mostF h).toNat (by show (0 : Int) ≤ 0; decide)
 rw [hRn _ hN] at hsr
 have hmb := most_b hh
 refine AW.seq ?_
 refine rs (ym ?_)
 refine Y1 (Yv.not rfl eV) (nl ?_)
 refine AW.cond rfl (fun h1t => ?_) (fun h1f => ?_)
 ·try replace h1t := odt h1t
  exfalso; rw [hst] at h1t; cases h1t
 try replace h1f := odf h1f
 refine AW.skip ?_
 refine rs (ym ?_)
 refine ya ?_
 refine AW.drop (S' := DP L m2 q2) (List.sublist_append_left (DP L m2 q2) _) ?_
 refine AW.ret (retI (.tmp rfl .nil) ?_)
 refine ⟨L, m2, q2, mR, rfl, hbs, hde, hRe, hq2, ?_, rfl⟩
 rw [c_end hde]
 refine ⟨hsr.1, Int.le_trans hsr.2 ?_⟩
 show (0 : Int) + ((mostF h).toNat : Int) ≤ _
 unfold mostF
 omega

end Go.Proofs.YtpgbpdnmjeoeoaaGreat.G

namespace Go.Proofs.YtpgbpdnmjeoeoaaGreat.G
open Go Go.RowKit B
set_option maxRecDepth 100000
section
variable {RF : Int → Wd64 → Wd64 → Wd64} {P : Prog} {h : Wd64} {e b : Bool} {w w' : V.PW} {s s' : Sy} {m : Mc} {obs : List Ob}
end
/-! ### behind gc.start -/
theorem st_more (h : Wd64) (b : Bool) (c : Nat → Wd64) : (symS (stS h b c)).c 32 = 1073741824#64 ∧ (symS (stS h b c)).c 34 = 1073741824#64 + prt h * 2#64 ∧ (symS (stS h b c)).c 36 = 1073741824#64 + prt h * 2#64 ∧ (symS (stS h b c)).c 37 = 1073741824#64 + prt h * 2#64 + prt h * 4#64 ∧ (symS (stS h b c)).c 38 = 1073741824#64 + prt h * 2#64 + prt h * 4#64 ∧ (symS (stS h b c)).c 39 = 1073741824#64 + prt h * 2#64 + prt h * 4#64 + prt h * 4#64 ∧ (symS (stS h b c)).c 40 = 1073741824#64 + prt h * 2#64 + prt h * 4#64 + prt h * 4#64 ∧ (symS (stS h b c)).c 47 = prt h * 4#64 := by
 cases b <;> exact ⟨by kernel_rfl, by kernel_rfl, by kernel_rfl, by kernel_rfl, by kernel_rfl, by kernel_rfl, by kernel_rfl, by kernel_rfl⟩
theorem ule_refl (a : Wd64) : holdsF 6 a a = true := by
 unfold holdsF
 rw [if_neg (by decide), if_neg (by decide), if_neg (by decide), if_neg (by decide), if_neg (by decide)]
 exact decide_eq_true (BitVec.le_refl a)
theorem add_sub_l (x y : Wd64) : x + y - x = y := by rw [BitVec.add_comm]; exact BitVec.add_sub_cancel _ _
end Go.Proofs.YtpgbpdnmjeoeoaaGreat.G

namespace Go.Proofs.YtpgbpdnmjeoeoaaGreat.G
open Go Go.RowKit

def pickF (c : Int) (n : Int) : Int := (if c < 0 then -(c + 1) else c) % n
theorem pick_in (c : Int) {n : Int} (h : 0 < n) : 0 ≤ pickF c n ∧ pickF c n < n := ⟨Int.emod_nonneg _ (by omega), Int.emod_lt_of_pos _ h⟩
def sizeG (n : Int) : Wd64 := 65536#64 + wI (pickF n 40000)
theorem size_n (n : Int) : 65536 ≤ (sizeG n).toNat ∧ (sizeG n).toNat < 105536 := by
 obtain ⟨h0, h1⟩ := pick_in n (n := 40000) (by decide)
 have h := wI_nat (pickF n 40000)
 rw [wrap_u64] at h
 unfold sizeG
 rw [BitVec.toNat_add, show (65536#64 : Wd64).toNat = 65536 from rfl]
 omega
set_option maxHeartbeats 400000 in
theorem pick12 (c n : Int) (h0 : -9223372036854775808 ≤ c) (h1 : c ≤ 9223372036854775807) (h2 : 0 < n) :
    ACalls Tryz.prog 12 [zi c, zi n] [] (fun t S => t = zi (pickF c n)) := by
 refine ACalls.intro Tryz.func12 rfl Tryz.ntmps12 nB rfl fun X w0 => ?_
 refine ra ?_
 refine AW.seq ?_
 refine rs (ym ?_)
 refine Y1 (Yv.lss rfl eV eV) (nl ?_)
 refine AW.cond rfl (fun h0t => ?_) (fun h0f => ?_)
 ·try replace h0t := odt h0t
  refine AW.region ?_
  refine ym ?_
  refine Y1 (Yv.addN_i64 rfl eV eV (fun hg => by omega)) ?_
  refine Y1 (Yv.neg rfl eV) ?_
  have e9 : IntKind.i64.wrap (0 - (c + 1)) = -(c + 1) := by rw [IntWalk.i64_in _ (by omega)]; omega
  rw [e9]
  refine ya ?_
  refine rs (ym ?_)
  refine ym ?_
  refine Y1 (Yv.remN rfl eV eV (fun hg => by omega)) ?_
  refine ya ?_
  refine AW.ret (retI (.tmp rfl .nil) ?_)
  unfold pickF; rw [if_pos h0t]; rfl
 try replace h0f := odf h0f
 refine AW.skip ?_
 refine rs (ym ?_)
 refine ym ?_
 refine Y1 (Yv.remN rfl eV eV (fun hg => by omega)) ?_
 refine ya ?_
 refine AW.ret (retI (.tmp rfl .nil) ?_)
 unfold pickF; rw [if_neg h0f]; rfl

set_option maxHeartbeats 400000 in
theorem size11 (n : Int) (h0 : -9223372036854775808 ≤ n) (h1 : n ≤ 9223372036854775807) :
    ACalls Tryz.prog 11 [zi n] [] (fun t S => t = zw (sizeG n)) := by
 refine ACalls.intro Tryz.func11 rfl Tryz.ntmps11 nB rfl fun X w0 => ?_
 refine ra ?_
 refine rs (ym ?_)
 refine AWL.callT rfl rfl (B rfl) rfl ce_12 (E rfl rfl) (evsC (E rfl rfl) (evsC (E rfl rfl) evs0)) (pick12 n 40000 h0 h1 (by decide)) ?_
 rintro t4 S4 rfl
 refine Y1 (Yv.convW rfl Tryz.underlying3 kd_22 eV) ?_
 refine Y1 (Yv.addW (a := 65536#64) rfl eV eV) ?_
 refine ya ?_
 refine AW.ret (retI (.tmp rfl .nil) ?_)
 rfl

end Go.Proofs.YtpgbpdnmjeoeoaaGreat.G

namespace Go.Proofs.YtpgbpdnmjeoeoaaGreat.G
open Go Go.RowKit B
set_option maxRecDepth 100000
def nmAlloc : List UInt8 := [103, 99, 46, 97, 108, 108, 111, 99]
def nameNo (n : Nat) (nm : List UInt8) : Bool := (List.range n).all fun j => !decide ((gcP.funs.getD j default).name = nm)
theorem name_no {n : Nat} {nm : List UInt8} (h : nameNo n nm = true) : ∀ j, j < n → (gcP.funs.getD j default).name ≠ nm := fun j hj e => by
 have := List.all_eq_true.1 h j (List.mem_range.2 hj)
 rw [decide_eq_true e] at this
 cases this
section
variable {L : DLay} {m2 mR : Mc} {q2 : DQ} {y n : Wd64}
end
end Go.Proofs.YtpgbpdnmjeoeoaaGreat.G

namespace Go.Proofs.YtpgbpdnmjeoeoaaGreat.G
open Go Go.RowKit B
set_option maxRecDepth 100000
theorem run_ret {h : Wd64} {m : Mc} {c : Nat → Wd64} (hp : m.c.prog = gcP) (hh : m.c.heap = h) (hs : m.c.strict = false) (hw : m.w = w00) (hc : Cells c m.mem) {n K : Nat} {vs : List SV} (hl : vs.length ≤ (fnS gcP n).regs.toNat) {bs : List Bool} {s : Sy} {obs : List Ob}
    (hr : srun gcP h bs K ⟨⟨n, 0, argsR 0 vs, 0⟩, [], c⟩ [] = some (s, obs)) (ho : ∀ o ∈ obs, o.ok) {v : SV} (hk : (insS gcP s.top).kind = 26 ∧ kn (insS gcP s.top).a.toNat s.top.ρ = some v ∧ s.bl = []) :
    ∃ mR, (∀ N, K + 1 ≤ N → runM realF N (entM m n (vs.map SV.val)) = mR) ∧ (∀ j, (runM realF j (entM m n (vs.map SV.val))).w = w00) ∧ Ended gcP h w00 s.c v.val mR := by
 have hi := ent_is hp hh hs hw hc hl
 obtain ⟨m1, r1, i1⟩ := srun_ok (RF := realF) gc_z hi hr ho
 obtain ⟨mR, r2, e2⟩ := ret_end (RF := realF) i1 hk.1 hk.2.1 hk.2.2
 have hend : ∀ N, K + 1 ≤ N → runM realF N (entM m n (vs.map SV.val)) = mR := fun N hN => by
  rw [show N = (N - K - 1 + 1) + K by omega, r1, r2]
 refine ⟨mR, hend, fun j => ?_, e2⟩
 by_cases q : j ≤ K
 ·exact srun_w gc_z hi hr ho j q
 rw [hend j (by omega)]; exact e2.w
structure Live (y : Wd64) (c : Nat → Wd64) (B : Int) (m : Mc) (q : DQ) : Prop where
 prog : m.c.prog = gcP
 heap : m.c.heap = y
 strict : m.c.strict = false
 w : m.w = w00
 c : Cells c m.mem
 rel : DRel m q
 s0 : 0 ≤ m.c.steps
 s1 : m.c.steps ≤ B
theorem Live.of {y : Wd64} {c : Nat → Wd64} {v : Wd64} {B : Int} {m mR : Mc} {q : DQ} (hd : DEnd m mR) (he : Ended gcP y w00 c v mR) (hq : DRel m q) (hs : 0 ≤ m.c.steps ∧ m.c.steps ≤ B) : Live y c B m q := by
 have e : Ended gcP y w00 c v m := by
  rcases hd with rfl | ⟨_, at_, rfl⟩
  ·exact he
  ·exact ⟨he.prog, he.heap, he.strict, he.st, he.ans, he.w, he.c⟩
 exact ⟨e.prog, e.heap, e.strict, e.w, e.c, hq, hs.1, hs.2⟩
section
variable {L : DLay} {m : Mc} {q : DQ} {y : Wd64} {c c' : Nat → Wd64} {B : Int}
theorem call_live (hbs : L.bs.length = gcP.funs.length) (hL : Live y c B m q) (hy : y.toNat < 105536) (hB : B ≤ 4000000000000000000) (nm : List UInt8) (args : List Wd64) (n K : Nat) (v : Wd64) (hn : n < gcP.funs.length) (hnm : (gcP.funs.getD n default).name = nm) (hno : nameNo n nm = true) (hpa : (args.length : Int) = (gcP.funs.getD n default).params) (hal : args.length ≤ 65536) (hK : K ≤ 4000)
    (hrun : ∃ mR, (∀ N, K ≤ N → runM realF N (entM m n args) = mR) ∧ (∀ j, (runM realF j (entM m n args)).w = w00) ∧ Ended gcP y w00 c' v mR) :
    ACalls Tryz.prog 13 [.v (.pointer (some ⟨L.s, 0, none⟩)), sv nm, .sl 1 (args.map zw)] (DP L m q) (fun t S => ∃ m3 q3, t = .tup [zw v, bv true] ∧ Live y c' (B + 1000000) m3 q3 ∧ S = DP L m3 q3) := by
 obtain ⟨mR, r1, r2, e⟩ := hrun
 have hh := hL.heap
 have hdiv : (y / 8#64).toNat = y.toNat / 8 := by rw [BitVec.toNat_udiv]; rfl
 refine (Call13 L gcP gc_ok gc_in m q hL.prog hL.rel hbs nm args n hn hnm (name_no hno) hpa hal (by rw [hh]; omega) ⟨hL.s0, by have := hL.s1; omega⟩ (fun j => by rw [r2 j]; exact rp00)).mono ?_
 rintro t S ⟨m3, q3, rfl, h3, hq3, rfl⟩
 have hN : K ≤ (mostF m.c.heap).toNat := by unfold mostF; omega
 have hsr := steps_run (entM_ok (m := m) (n := n) (args := args) gc_ok hL.prog hn hpa) (mostF m.c.heap).toNat hL.s0
 have hs : 0 ≤ m3.c.steps ∧ m3.c.steps ≤ B + 1000000 := by
  rw [c_end h3]
  refine ⟨hsr.1, Int.le_trans hsr.2 ?_⟩
  show m.c.steps + ((mostF m.c.heap).toNat : Int) ≤ _
  have := hL.s1
  unfold mostF
  rw [hh]
  omega
 rw [r1 _ hN] at h3
 refine ⟨m3, q3, ?_, Live.of h3 e hq3 hs, rfl⟩
 have e1 : m3.c.ans = v := by rw [c_end h3]; exact e.ans
 have e2 : m3.c.st = 3 := by rw [c_end h3]; exact e.st
 rw [e1, e2]; rfl
/-! ### stores -/
theorem th_heap {P : Prog} {a : Wd64} (ha : 1073741824 ≤ a.toNat) (hb : a.toNat + 8 ≤ 1073741824 + y.toNat) : thereF (psData P) y a (wI 8) = true := by
 have hs : (a - 1073741824#64).toNat = a.toNat - 1073741824 := by
  rw [BitVec.toNat_sub, BitVec.toNat_ofNat]
  have := a.isLt
  omega
 have h8n : (wI 8).toNat = 8 := rfl
 have hr : (y - (a - 1073741824#64)).toNat = y.toNat - (a.toNat - 1073741824) := by
  rw [BitVec.toNat_sub, hs]
  have := y.isLt
  omega
 unfold thereF inF
 simp only [Bool.or_eq_true, Bool.and_eq_true, decide_eq_true_eq, BitVec.le_def]
 right
 refine ⟨⟨?_, ?_⟩, ?_⟩
 ·rw [BitVec.toNat_ofNat]; omega
 ·rw [hs]; omega
 rw [hr, h8n]; omega
theorem Cells.far {m : Mf} (h : Cells c m) {a x : Wd64} (ha : 268435856 ≤ a.toNat) (hb : a.toNat + 8 ≤ 18446744073709551616) : Cells c (putsF m a x 8) := by
 intro j hj
 refine Eq.trans (le_ext 8 (fun i hi => puts_out _ _ _ _ _ (fun l hl q => ?_))) (h j hj)
 have := congrArg BitVec.toNat q
 have hl2 := wI_nat (l : Int)
 rw [wrap_u64] at hl2
 rw [cell_at _ _ hj hi, BitVec.toNat_add] at this
 omega
def storeM (m : Mc) (a x : Wd64) : Mc := { m with mem := putsF m.mem a x 8 }
theorem DStoreP (hL : Live y c B m q) (a x : Wd64) (ht : thereF (psData gcP) y a (wI 8) = true) :
    ACalls Tryz.prog 15 [.v (.pointer (some ⟨L.s, 0, none⟩)), zw a, zi 8, zw x] (DP L m q) (fun t S => ∃ q', t = bv true ∧ (∀ c', Cells c' (putsF m.mem a x 8) → Live y c' B (storeM m a x) q') ∧ S = DP L (storeM m a x) q') := by
 have hpr := hL.prog
 have h := DStore18 L.s L.pg (psLD L m.c) q.ob (.v (.slice (some ⟨q.g, 0, none⟩) (q.K.length + 1) q.c)) q.l rfl hL.rel.ok (by show m.c.prog.data.length ≤ _; rw [hpr]; exact gc_in.data) (by show 0 ≤ m.c.prog.zero; rw [hpr]; exact gc_ok.zero.1) (by show m.c.prog.zero ≤ _; rw [hpr]; exact gc_ok.zero.2) a 8 x
 have ht' : (sizeOk 8 && thereF (psData (psLD L m.c).prog) (psLD L m.c).heap a (wI 8)) = true := by
  show (sizeOk 8 && thereF (psData m.c.prog) m.c.heap a (wI 8)) = true
  rw [hpr, hL.heap, ht]; rfl
 refine ACalls.part _ h permL ?_
 rintro t S ⟨rfl, l', rfl, hl', hg⟩
 rw [if_pos ht', hL.rel.mem] at hg
 refine ⟨DP L (storeM m a x) ⟨q.g, q.c, q.a, q.K, l', q.ds, q.ob⟩, permL, ⟨q.g, q.c, q.a, q.K, l', q.ds, q.ob⟩, by rw [ht'], fun c' hc' => ⟨hL.prog, hL.heap, hL.strict, hL.w, hc', ⟨hL.rel.bl, hl', hg, hL.rel.w⟩, hL.s0, hL.s1⟩, rfl⟩
end
/-! ### where nothing is held -/
def row20 (c : Nat → Wd64) : List Wd64 := (List.range 12).map fun k => c (20 + k)
structure Idle (y u : Wd64) (c : Nat → Wd64) : Prop where
 top : c 0 = c 1
 raised : c 3 = 1#64
 exns : ∀ k, k < 8 → c (5 + 2 * k) = 1#64
 nb : c 32 = 1073741824#64
 nn : c 33 = 1073741824#64 + u
 ne : c 34 = 1073741824#64 + prt y * 2#64
 on : c 36 = c 35
 oe : c 37 = c 35 + c 47
 mke : c 40 = c 39
 hf : c 47 = prt y * 4#64
def oneO (c : Nat → Wd64) : List Ob := [⟨1, c 19 &&& 1#64, 0#64, false⟩, ⟨1, c 17 &&& 1#64, 0#64, false⟩, ⟨1, c 15 &&& 1#64, 0#64, false⟩, ⟨1, c 13 &&& 1#64, 0#64, false⟩, ⟨1, c 11 &&& 1#64, 0#64, false⟩, ⟨1, c 9 &&& 1#64, 0#64, false⟩, ⟨1, c 7 &&& 1#64, 0#64, false⟩, ⟨1, c 5 &&& 1#64, 0#64, false⟩, ⟨1, c 3 &&& 1#64, 0#64, false⟩, ⟨6, c 0, c 1, true⟩]
theorem one_ok {y u : Wd64} {c : Nat → Wd64} (h : Idle y u c) : ∀ o ∈ oneO c, o.ok := by
 intro o ho
 unfold oneO at ho
 simp only [List.mem_cons, List.not_mem_nil, or_false] at ho
 rcases ho with rfl | rfl | rfl | rfl | rfl | rfl | rfl | rfl | rfl | rfl
 ·exact (congrArg (fun z => holdsF 1 (z &&& 1#64) 0#64) (h.exns 7 (by decide))).trans rfl
 ·exact (congrArg (fun z => holdsF 1 (z &&& 1#64) 0#64) (h.exns 6 (by decide))).trans rfl
 ·exact (congrArg (fun z => holdsF 1 (z &&& 1#64) 0#64) (h.exns 5 (by decide))).trans rfl
 ·exact (congrArg (fun z => holdsF 1 (z &&& 1#64) 0#64) (h.exns 4 (by decide))).trans rfl
 ·exact (congrArg (fun z => holdsF 1 (z &&& 1#64) 0#64) (h.exns 3 (by decide))).trans rfl
 ·exact (congrArg (fun z => holdsF 1 (z &&& 1#64) 0#64) (h.exns 2 (by decide))).trans rfl
 ·exact (congrArg (fun z => holdsF 1 (z &&& 1#64) 0#64) (h.exns 1 (by decide))).trans rfl
 ·exact (congrArg (fun z => holdsF 1 (z &&& 1#64) 0#64) (h.exns 0 (by decide))).trans rfl
 ·exact (congrArg (fun z => holdsF 1 (z &&& 1#64) 0#64) h.raised).trans rfl
 show holdsF 6 _ _ = true
 dsimp only
 rw [h.top]
 exact ule_refl _
theorem ok_cons {k : Int} {u v : Wd64} {b : Bool} {l : List Ob} (h : holdsF k u v = b) (hl : ∀ o ∈ l, o.ok) : ∀ o ∈ (⟨k, u, v, b⟩ : Ob) :: l, o.ok := fun o ho => by
 rcases List.mem_cons.1 ho with e | e
 ·rw [e]; exact h
 ·exact hl o e
theorem ok_nil : ∀ o ∈ ([] : List Ob), o.ok := fun o q => by cases q
theorem exn_c {f c : Nat → Wd64} (h : (List.range 8).map (fun k => f (5 + 2 * k)) = (List.range 8).map (fun k => c (5 + 2 * k))) : ∀ k, k < 8 → f (5 + 2 * k) = c (5 + 2 * k) := fun k hk => List.map_inj_left.1 h k (List.mem_range.2 hk)
section
variable {y u n : Wd64} {c : Nat → Wd64}
theorem prt_n (hy : y.toNat < 105536) : (prt y).toNat = y.toNat / 128 * 8 := heap_n (by omega)
/-! gc.alloc of a little -/
def lsS (h n : Wd64) (c : Nat → Wd64) : Option (Sy × List Ob) := srun gcP h [false, false] 14 ⟨⟨2, 0, argsR 0 [.wd n], 0⟩, [], c⟩ []
theorem ls_some (h n : Wd64) (c : Nat → Wd64) : lsS h n c = some (symS (lsS h n c), [⟨5, c 34, c 33 + n, false⟩, ⟨5, c 34 - c 32, n, false⟩]) := by kernel_rfl
theorem ls_at (h n : Wd64) (c : Nat → Wd64) : (insS gcP (symS (lsS h n c)).top).kind = 26 ∧ kn (insS gcP (symS (lsS h n c)).top).a.toNat (symS (lsS h n c)).top.ρ = some (.wd (c 33)) ∧ (symS (lsS h n c)).bl = [] := ⟨by kernel_rfl, by kernel_rfl, by kernel_rfl⟩
theorem ls_c (h n : Wd64) (c : Nat → Wd64) : (symS (lsS h n c)).c = updC c 33 (c 33 + n) := by kernel_rfl
theorem ult_no {a b : Wd64} (h : b.toNat ≤ a.toNat) : holdsF 5 a b = false := by
 unfold holdsF
 rw [if_neg (by decide), if_neg (by decide), if_neg (by decide), if_neg (by decide), if_pos rfl]
 exact decide_eq_false (by rw [BitVec.lt_def]; omega)
theorem ule_yes {a b : Wd64} (h : a.toNat ≤ b.toNat) : holdsF 6 a b = true := by
 unfold holdsF
 rw [if_neg (by decide), if_neg (by decide), if_neg (by decide), if_neg (by decide), if_neg (by decide)]
 exact decide_eq_true (by rw [BitVec.le_def]; exact h)
theorem ls_obs (hy : 65536 ≤ y.toNat ∧ y.toNat < 105536) (h : Idle y 0#64 c) (hn : n.toNat ≤ 8192) : ∀ o ∈ ([⟨5, c 34, c 33 + n, false⟩, ⟨5, c 34 - c 32, n, false⟩] : List Ob), o.ok := by
 have e := prt_n hy.2
 refine ok_cons (ult_no ?_) (ok_cons (ult_no ?_) ok_nil)
 ·rw [h.ne, h.nn]
  simp only [BitVec.toNat_add, BitVec.toNat_mul, BitVec.toNat_ofNat, e]
  omega
 rw [h.ne, h.nb, add_sub_l]
 simp only [BitVec.toNat_mul, BitVec.toNat_ofNat, e]
 omega
theorem ls_idle (h : Idle y 0#64 c) : Idle y n (updC c 33 (c 33 + n)) := by
 refine ⟨h.top, h.raised, fun k hk => ?_, h.nb, ?_, h.ne, h.on, h.oe, h.mke, h.hf⟩
 ·refine Eq.trans ?_ (h.exns k hk)
  unfold updC
  rw [beqF (by omega)]
  rfl
 show c 33 + n = _
 rw [h.nn, BitVec.add_zero]
/-! gc.minor -/
def miS (h : Wd64) (c : Nat → Wd64) : Option (Sy × List Ob) := srun gcP h [true, true, false, false, false, false, false, false, false, false, false, true, true] 155 ⟨⟨3, 0, argsR 0 [], 0⟩, [], c⟩ []
theorem mi_some (h : Wd64) (c : Nat → Wd64) : miS h c = some (symS (miS h c), ⟨6, c 36, c 36, true⟩ :: ⟨6, c 40, c 39, true⟩ :: (oneO c ++ [⟨6, c 33 - c 32, c 37 - c 36, true⟩])) := by kernel_rfl
theorem mi_at (h : Wd64) (c : Nat → Wd64) : (insS gcP (symS (miS h c)).top).kind = 26 ∧ kn (insS gcP (symS (miS h c)).top).a.toNat (symS (miS h c)).top.ρ = some (.wd 1#64) ∧ (symS (miS h c)).bl = [] := ⟨by kernel_rfl, by kernel_rfl, by kernel_rfl⟩
theorem mi_20 (h : Wd64) (c : Nat → Wd64) : row20 (symS (miS h c)).c = row20 c := by kernel_rfl
theorem mi_obs (hy : 65536 ≤ y.toNat ∧ y.toNat < 105536) (h : Idle y u c) (hu : u.toNat ≤ 16384) : ∀ o ∈ (⟨6, c 36, c 36, true⟩ :: ⟨6, c 40, c 39, true⟩ :: (oneO c ++ [⟨6, c 33 - c 32, c 37 - c 36, true⟩]) : List Ob), o.ok := by
 have e := prt_n hy.2
 refine ok_cons (ule_refl _) (ok_cons ?_ (fun o q => ?_))
 ·rw [h.mke]; exact ule_refl _
 rcases List.mem_append.1 q with q | q
 ·exact one_ok h o q
 rw [List.mem_singleton.1 q]
 refine ule_yes ?_
 rw [h.nn, h.nb, h.oe, h.on, h.hf, add_sub_l, add_sub_l]
 simp only [BitVec.toNat_mul, BitVec.toNat_ofNat, e]
 omega
theorem mi_idle (h : Idle y u c) : Idle y 0#64 (symS (miS y c)).c := by
 refine ⟨?_, ?_, fun k hk => ?_, ?_, ?_, ?_, ?_, ?_, ?_, ?_⟩
 ·exact Eq.trans (by kernel_rfl) (h.top.trans (by kernel_rfl))
 ·exact Eq.trans (b := c 3) (by kernel_rfl) h.raised
 ·exact (exn_c (f := (symS (miS y c)).c) (c := c) (by kernel_rfl) k hk).trans (h.exns k hk)
 ·exact Eq.trans (b := c 32) (by kernel_rfl) h.nb
 ·exact Eq.trans (b := c 32) (by kernel_rfl) h.nb
 ·exact Eq.trans (b := c 34) (by kernel_rfl) h.ne
 ·exact Eq.trans (b := c 36) (by kernel_rfl) (h.on.trans (by kernel_rfl))
 ·exact Eq.trans (b := c 37) (by kernel_rfl) (h.oe.trans (by kernel_rfl))
 ·kernel_rfl
 exact Eq.trans (b := c 47) (by kernel_rfl) h.hf
/-! gc.major -/
def maS (h : Wd64) (c : Nat → Wd64) : Option (Sy × List Ob) := srun gcP h [true, true, false, false, false, false, false, false, false, false, false, true, true] 170 ⟨⟨4, 0, argsR 0 [], 0⟩, [], c⟩ []
theorem ma_some (h : Wd64) (c : Nat → Wd64) : maS h c = some (symS (maS h c), ⟨6, c 38, c 38, true⟩ :: ⟨6, c 39, c 39, true⟩ :: (oneO c ++ [⟨6, c 40, c 39, true⟩])) := by kernel_rfl
theorem ma_at (h : Wd64) (c : Nat → Wd64) : (insS gcP (symS (maS h c)).top).kind = 26 ∧ kn (insS gcP (symS (maS h c)).top).a.toNat (symS (maS h c)).top.ρ = some (.wd 1#64) ∧ (symS (maS h c)).bl = [] := ⟨by kernel_rfl, by kernel_rfl, by kernel_rfl⟩
theorem ma_20 (h : Wd64) (c : Nat → Wd64) : row20 (symS (maS h c)).c = row20 c := by kernel_rfl
theorem ma_obs (h : Idle y u c) : ∀ o ∈ (⟨6, c 38, c 38, true⟩ :: ⟨6, c 39, c 39, true⟩ :: (oneO c ++ [⟨6, c 40, c 39, true⟩]) : List Ob), o.ok := by
 refine ok_cons (ule_refl _) (ok_cons (ule_refl _) (fun o q => ?_))
 rcases List.mem_append.1 q with q | q
 ·exact one_ok h o q
 rw [List.mem_singleton.1 q]
 show holdsF 6 _ _ = true
 dsimp only
 rw [h.mke]; exact ule_refl _
theorem ma_idle (h : Idle y u c) : Idle y 0#64 (symS (maS y c)).c := by
 refine ⟨?_, ?_, fun k hk => ?_, ?_, ?_, ?_, ?_, ?_, ?_, ?_⟩
 ·exact Eq.trans (by kernel_rfl) (h.top.trans (by kernel_rfl))
 ·exact Eq.trans (b := c 3) (by kernel_rfl) h.raised
 ·exact (exn_c (f := (symS (maS y c)).c) (c := c) (by kernel_rfl) k hk).trans (h.exns k hk)
 ·exact Eq.trans (b := c 32) (by kernel_rfl) h.nb
 ·exact Eq.trans (b := c 32) (by kernel_rfl) h.nb
 ·exact Eq.trans (b := c 34) (by kernel_rfl) h.ne
 ·kernel_rfl
 ·kernel_rfl
 ·kernel_rfl
 exact Eq.trans (b := c 47) (by kernel_rfl) h.hf
end
theorem st_idle {y : Wd64} {c : Nat → Wd64} (b : Bool) : Idle y 0#64 (symS (stS y b c)).c := by
 obtain ⟨g0, g1, g2, g3, g4⟩ := st_cells y b c
 obtain ⟨f32, f34, f36, f37, f38, f39, f40, f47⟩ := st_more y b c
 refine ⟨g0.trans g1.symm, g3, fun k hk => (g4 k hk).2, f32, ?_, f34, ?_, ?_, f40.trans f39.symm, f47⟩
 ·cases b <;> kernel_rfl
 ·cases b <;> kernel_rfl
 rw [f37, f47]; cases b <;> kernel_rfl
end Go.Proofs.YtpgbpdnmjeoeoaaGreat.G
