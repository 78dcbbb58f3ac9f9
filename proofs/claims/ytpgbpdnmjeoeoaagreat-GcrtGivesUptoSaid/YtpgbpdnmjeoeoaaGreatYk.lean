/-
  TEXTS JOINED: BWk6, BWk7, BWk8, GGd, Gk1, GGs, GGn, Gk2, GGi.
-/
import Derived.Test.YtpgbpdnmjeoeoaaGreatYj
set_option linter.unusedSimpArgs false
set_option linter.unusedVariables false
set_option linter.unusedSectionVars false
set_option linter.unnecessarySimpa false
namespace Go.Proofs.YtpgbpdnmjeoeoaaGreat.B
open Go Go.RowKit

def mStart1a (x0 x1 x2 x3 v1 v2 : Int) : BM Unit :=
 bnd (mSetCell (x0) (v1)) fun _ =>
 bnd (mSetCell (x1) (v1)) fun _ =>
 bnd (mOpC (5) (v2) (x3)) fun d3 =>
 bnd (mInto (v1) (3) (v1) (d3)) fun _ =>
 mSetCell (x2) (v1)
set_option maxHeartbeats 4000000 in
theorem cStart1a (p N : Nat) (bd : Bd) (A : Option Addr) (c : Nat) (ok : BdOk N bd) (hN : N ≤ 90000) (F : St) (i0 g0 : Nat) (h0 : F[i0]? = some (p87 g0 p)) (i1 g1 : Nat) (v1 : Int) (h1 : F[i1]? = some (Ent.box g1 3 [zi v1])) (i2 g2 : Nat) (v2 : Int) (h2 : F[i2]? = some (Ent.box g2 3 [zi v2])) (x0 x1 x2 x3 : Int) (hx0 : 0 ≤ x0) (hx1 : 0 ≤ x1) (hx2 : 0 ≤ x2) :
    ACalls Tryz.prog 75 [zi x0, zi x1, zi x2, zi x3, pv g0, pv g1, pv g2] (F ++ BdE p bd A c) (BRF (mStart1a x0 x1 x2 x3 v1 v2) bd p (N + 14) F) := by
 refine ACalls.intro Tryz.func75 rfl Tryz.ntmps75 nB rfl fun X w0 => ?_
 refine AW.seq ?_
 refine rs (ym ?_)
 refine Y1 (Yv.geq rfl eV eV) (nl ?_)
 refine AW.cond rfl (fun h0t => ?_) (fun h0f => ?_)
 ·try replace h0t := odt h0t
  refine AW.region ?_
  refine Y1 (Yv.loadBox rfl ag_87 (i := i0) (appS (l := F) h0) eV rfl) ?_
  refine ym ?_
  refine Y1 (Yv.loadBox rfl ag_3 (i := i1) (appS (l := F) h1) eV rfl) ?_
  refine cE ce_76 F (BdE p bd A c) rfl rfl rfl (cSetCell p N bd A c ok (by omega) x0 v1) ?_
  rintro t16 S16 ⟨d1, bd1, A1, c1, e1, ok1, rfl, rfl⟩
  refine nl ?_
  refine AW.seq ?_
  refine rs (ym ?_)
  refine Y1 (Yv.geq rfl eV eV) (nl ?_)
  refine AW.cond rfl (fun h1t => ?_) (fun h1f => ?_)
  ·try replace h1t := odt h1t
   refine AW.region ?_
   refine Y1 (Yv.loadBox rfl ag_87 (i := i0) (appS (l := F) h0) eV rfl) ?_
   refine ym ?_
   refine Y1 (Yv.loadBox rfl ag_3 (i := i1) (appS (l := F) h1) eV rfl) ?_
   refine cE ce_76 F (BdE p bd1 A1 c1) rfl rfl rfl (cSetCell p (N + 3) bd1 A1 c1 ok1 (by omega) x1 v1) ?_
   rintro t22 S22 ⟨d2, bd2, A2, c2, e2, ok2, rfl, rfl⟩
   refine nl ?_
   refine AW.rseqH (HeldCs [(g0, 0, Value.pointer (some ⟨p, 0, none⟩)), (g1, 0, Value.int .i64 (v1)), (g2, 0, Value.int .i64 (v2))]) rfl (tells_cs (tcB i0 (appS (l := F) h0) rfl pinV (tcB i1 (appS (l := F) h1) rfl pinV (tcB i2 (appS (l := F) h2) rfl pinV (tc0))))) ?_
   refine T2 (i := 0) rfl (heldB 0 rfl ag_87 (E rfl rfl) rfl (fun _ _ => .v _)) ?_
   refine T2 (i := 1) rfl (heldB 1 rfl ag_3 (E rfl rfl) rfl (fun _ _ => .v _)) ?_
   refine T2 (i := 2) rfl (heldB 1 rfl ag_3 (E rfl rfl) rfl (fun _ _ => .v _)) ?_
   refine T2 (i := 3) rfl (heldB 0 rfl ag_87 (E rfl rfl) rfl (fun _ _ => .v _)) ?_
   refine T2 (i := 4) rfl (heldB 2 rfl ag_3 (E rfl rfl) rfl (fun _ _ => .v _)) ?_
   refine AWH.one (i := 5) (by kernel_rfl) rfl ?_
   refine ym ?_
   refine AWL.nil (kpH (tcB i0 (appS (l := F) h0) rfl pinV (tcB i1 (appS (l := F) h1) rfl pinV (tcB i2 (appS (l := F) h2) rfl pinV (tc0)))) ?_)
   refine AWH.one (i := 6) (by kernel_rfl) rfl ?_
   refine cE ce_78 F (BdE p bd2 A2 c2) rfl rfl rfl (cOpC p (N + 6) bd2 A2 c2 ok2 (by omega) 5 v2 x3) ?_
   rintro t29 S29 ⟨d3, bd3, A3, c3, e3, ok3, rfl, rfl⟩
   refine AWL.nil (kpH (tcB i0 (appS (l := F) h0) rfl pinV (tcB i1 (appS (l := F) h1) rfl pinV (tcB i2 (appS (l := F) h2) rfl pinV (tc0)))) ?_)
   refine AWH.one (i := 7) (by kernel_rfl) rfl ?_
   refine cE ce_77 F (BdE p bd3 A3 c3) rfl rfl rfl (cInto p (N + 10) bd3 A3 c3 ok3 (by omega) v1 3 v1 d3) ?_
   rintro t30 S30 ⟨d4, bd4, A4, c4, e4, ok4, rfl, rfl⟩
   refine AWL.nil (kpH (tcB i0 (appS (l := F) h0) rfl pinV (tcB i1 (appS (l := F) h1) rfl pinV (tcB i2 (appS (l := F) h2) rfl pinV (tc0)))) ?_)
   refine AWH.done (by kernel_rfl) ?_
   refine rs (ym ?_)
   refine Y1 (Yv.geq rfl eV eV) (nl ?_)
   refine AW.cond rfl (fun h2t => ?_) (fun h2f => ?_)
   ·try replace h2t := odt h2t
    refine AW.region ?_
    refine Y1 (Yv.loadBox rfl ag_87 (i := i0) (appS (l := F) h0) eV rfl) ?_
    refine ym ?_
    refine Y1 (Yv.loadBox rfl ag_3 (i := i1) (appS (l := F) h1) eV rfl) ?_
    refine cE ce_76 F (BdE p bd4 A4 c4) rfl rfl rfl (cSetCell p (N + 11) bd4 A4 c4 ok4 (by omega) x2 v1) ?_
    rintro t36 S36 ⟨d5, bd5, A5, c5, e5, ok5, rfl, rfl⟩
    refine nl ?_
    refine retN .nil ?_
    exact ⟨rfl, _, _, _, (bq e1).trans ((bq e2).trans ((bq e3).trans ((bq e4).trans (e5)))), ok5, rfl⟩
   try replace h2f := odf h2f
   exfalso; omega
  try replace h1f := odf h1f
  exfalso; omega
 try replace h0f := odf h0f
 exfalso; omega

def mStart1b (x0 x1 x2 x3 v1 v2 : Int) : BM Unit :=
 bnd (mSetCell (x0) (v1)) fun _ =>
 bnd (mOpC (5) (v2) (x3)) fun d2 =>
 mInto (v1) (3) (v1) (d2)
set_option maxHeartbeats 4000000 in
theorem cStart1b (p N : Nat) (bd : Bd) (A : Option Addr) (c : Nat) (ok : BdOk N bd) (hN : N ≤ 90000) (F : St) (i0 g0 : Nat) (h0 : F[i0]? = some (p87 g0 p)) (i1 g1 : Nat) (v1 : Int) (h1 : F[i1]? = some (Ent.box g1 3 [zi v1])) (i2 g2 : Nat) (v2 : Int) (h2 : F[i2]? = some (Ent.box g2 3 [zi v2])) (x0 x1 x2 x3 : Int) (hx0 : 0 ≤ x0) (hx1 : x1 < 0) (hx2 : x2 < 0) :
    ACalls Tryz.prog 75 [zi x0, zi x1, zi x2, zi x3, pv g0, pv g1, pv g2] (F ++ BdE p bd A c) (BRF (mStart1b x0 x1 x2 x3 v1 v2) bd p (N + 8) F) := by
 refine ACalls.intro Tryz.func75 rfl Tryz.ntmps75 nB rfl fun X w0 => ?_
 refine AW.seq ?_
 refine rs (ym ?_)
 refine Y1 (Yv.geq rfl eV eV) (nl ?_)
 refine AW.cond rfl (fun h0t => ?_) (fun h0f => ?_)
 ·try replace h0t := odt h0t
  refine AW.region ?_
  refine Y1 (Yv.loadBox rfl ag_87 (i := i0) (appS (l := F) h0) eV rfl) ?_
  refine ym ?_
  refine Y1 (Yv.loadBox rfl ag_3 (i := i1) (appS (l := F) h1) eV rfl) ?_
  refine cE ce_76 F (BdE p bd A c) rfl rfl rfl (cSetCell p N bd A c ok (by omega) x0 v1) ?_
  rintro t16 S16 ⟨d1, bd1, A1, c1, e1, ok1, rfl, rfl⟩
  refine nl ?_
  refine AW.seq ?_
  refine rs (ym ?_)
  refine Y1 (Yv.geq rfl eV eV) (nl ?_)
  refine AW.cond rfl (fun h1t => ?_) (fun h1f => ?_)
  ·try replace h1t := odt h1t
   exfalso; omega
  try replace h1f := odf h1f
  refine AW.skip ?_
  refine AW.rseqH (HeldCs [(g0, 0, Value.pointer (some ⟨p, 0, none⟩)), (g1, 0, Value.int .i64 (v1)), (g2, 0, Value.int .i64 (v2))]) rfl (tells_cs (tcB i0 (appS (l := F) h0) rfl pinV (tcB i1 (appS (l := F) h1) rfl pinV (tcB i2 (appS (l := F) h2) rfl pinV (tc0))))) ?_
  refine T2 (i := 0) rfl (heldB 0 rfl ag_87 (E rfl rfl) rfl (fun _ _ => .v _)) ?_
  refine T2 (i := 1) rfl (heldB 1 rfl ag_3 (E rfl rfl) rfl (fun _ _ => .v _)) ?_
  refine T2 (i := 2) rfl (heldB 1 rfl ag_3 (E rfl rfl) rfl (fun _ _ => .v _)) ?_
  refine T2 (i := 3) rfl (heldB 0 rfl ag_87 (E rfl rfl) rfl (fun _ _ => .v _)) ?_
  refine T2 (i := 4) rfl (heldB 2 rfl ag_3 (E rfl rfl) rfl (fun _ _ => .v _)) ?_
  refine AWH.one (i := 5) (by kernel_rfl) rfl ?_
  refine ym ?_
  refine AWL.nil (kpH (tcB i0 (appS (l := F) h0) rfl pinV (tcB i1 (appS (l := F) h1) rfl pinV (tcB i2 (appS (l := F) h2) rfl pinV (tc0)))) ?_)
  refine AWH.one (i := 6) (by kernel_rfl) rfl ?_
  refine cE ce_78 F (BdE p bd1 A1 c1) rfl rfl rfl (cOpC p (N + 3) bd1 A1 c1 ok1 (by omega) 5 v2 x3) ?_
  rintro t29 S29 ⟨d2, bd2, A2, c2, e2, ok2, rfl, rfl⟩
  refine AWL.nil (kpH (tcB i0 (appS (l := F) h0) rfl pinV (tcB i1 (appS (l := F) h1) rfl pinV (tcB i2 (appS (l := F) h2) rfl pinV (tc0)))) ?_)
  refine AWH.one (i := 7) (by kernel_rfl) rfl ?_
  refine cE ce_77 F (BdE p bd2 A2 c2) rfl rfl rfl (cInto p (N + 7) bd2 A2 c2 ok2 (by omega) v1 3 v1 d2) ?_
  rintro t30 S30 ⟨d3, bd3, A3, c3, e3, ok3, rfl, rfl⟩
  refine AWL.nil (kpH (tcB i0 (appS (l := F) h0) rfl pinV (tcB i1 (appS (l := F) h1) rfl pinV (tcB i2 (appS (l := F) h2) rfl pinV (tc0)))) ?_)
  refine AWH.done (by kernel_rfl) ?_
  refine rs (ym ?_)
  refine Y1 (Yv.geq rfl eV eV) (nl ?_)
  refine AW.cond rfl (fun h2t => ?_) (fun h2f => ?_)
  ·try replace h2t := odt h2t
   exfalso; omega
  try replace h2f := odf h2f
  refine AW.skip ?_
  refine retN .nil ?_
  exact ⟨rfl, _, _, _, (bq e1).trans ((bq e2).trans (e3)), ok3, rfl⟩
 try replace h0f := odf h0f
 exfalso; omega

def mStart1c (x0 x1 x2 x3 v1 v2 : Int) : BM Unit :=
 bnd (mSetCell (x0) (v1)) fun _ =>
 bnd (mSetCell (x1) (v1)) fun _ =>
 bnd (mOpC (5) (v2) (x3)) fun d3 =>
 mInto (v1) (3) (v1) (d3)
set_option maxHeartbeats 4000000 in
theorem cStart1c (p N : Nat) (bd : Bd) (A : Option Addr) (c : Nat) (ok : BdOk N bd) (hN : N ≤ 90000) (F : St) (i0 g0 : Nat) (h0 : F[i0]? = some (p87 g0 p)) (i1 g1 : Nat) (v1 : Int) (h1 : F[i1]? = some (Ent.box g1 3 [zi v1])) (i2 g2 : Nat) (v2 : Int) (h2 : F[i2]? = some (Ent.box g2 3 [zi v2])) (x0 x1 x2 x3 : Int) (hx0 : 0 ≤ x0) (hx1 : 0 ≤ x1) (hx2 : x2 < 0) :
    ACalls Tryz.prog 75 [zi x0, zi x1, zi x2, zi x3, pv g0, pv g1, pv g2] (F ++ BdE p bd A c) (BRF (mStart1c x0 x1 x2 x3 v1 v2) bd p (N + 11) F) := by
 refine ACalls.intro Tryz.func75 rfl Tryz.ntmps75 nB rfl fun X w0 => ?_
 refine AW.seq ?_
 refine rs (ym ?_)
 refine Y1 (Yv.geq rfl eV eV) (nl ?_)
 refine AW.cond rfl (fun h0t => ?_) (fun h0f => ?_)
 ·try replace h0t := odt h0t
  refine AW.region ?_
  refine Y1 (Yv.loadBox rfl ag_87 (i := i0) (appS (l := F) h0) eV rfl) ?_
  refine ym ?_
  refine Y1 (Yv.loadBox rfl ag_3 (i := i1) (appS (l := F) h1) eV rfl) ?_
  refine cE ce_76 F (BdE p bd A c) rfl rfl rfl (cSetCell p N bd A c ok (by omega) x0 v1) ?_
  rintro t16 S16 ⟨d1, bd1, A1, c1, e1, ok1, rfl, rfl⟩
  refine nl ?_
  refine AW.seq ?_
  refine rs (ym ?_)
  refine Y1 (Yv.geq rfl eV eV) (nl ?_)
  refine AW.cond rfl (fun h1t => ?_) (fun h1f => ?_)
  ·try replace h1t := odt h1t
   refine AW.region ?_
   refine Y1 (Yv.loadBox rfl ag_87 (i := i0) (appS (l := F) h0) eV rfl) ?_
   refine ym ?_
   refine Y1 (Yv.loadBox rfl ag_3 (i := i1) (appS (l := F) h1) eV rfl) ?_
   refine cE ce_76 F (BdE p bd1 A1 c1) rfl rfl rfl (cSetCell p (N + 3) bd1 A1 c1 ok1 (by omega) x1 v1) ?_
   rintro t22 S22 ⟨d2, bd2, A2, c2, e2, ok2, rfl, rfl⟩
   refine nl ?_
   refine AW.rseqH (HeldCs [(g0, 0, Value.pointer (some ⟨p, 0, none⟩)), (g1, 0, Value.int .i64 (v1)), (g2, 0, Value.int .i64 (v2))]) rfl (tells_cs (tcB i0 (appS (l := F) h0) rfl pinV (tcB i1 (appS (l := F) h1) rfl pinV (tcB i2 (appS (l := F) h2) rfl pinV (tc0))))) ?_
   refine T2 (i := 0) rfl (heldB 0 rfl ag_87 (E rfl rfl) rfl (fun _ _ => .v _)) ?_
   refine T2 (i := 1) rfl (heldB 1 rfl ag_3 (E rfl rfl) rfl (fun _ _ => .v _)) ?_
   refine T2 (i := 2) rfl (heldB 1 rfl ag_3 (E rfl rfl) rfl (fun _ _ => .v _)) ?_
   refine T2 (i := 3) rfl (heldB 0 rfl ag_87 (E rfl rfl) rfl (fun _ _ => .v _)) ?_
   refine T2 (i := 4) rfl (heldB 2 rfl ag_3 (E rfl rfl) rfl (fun _ _ => .v _)) ?_
   refine AWH.one (i := 5) (by kernel_rfl) rfl ?_
   refine ym ?_
   refine AWL.nil (kpH (tcB i0 (appS (l := F) h0) rfl pinV (tcB i1 (appS (l := F) h1) rfl pinV (tcB i2 (appS (l := F) h2) rfl pinV (tc0)))) ?_)
   refine AWH.one (i := 6) (by kernel_rfl) rfl ?_
   refine cE ce_78 F (BdE p bd2 A2 c2) rfl rfl rfl (cOpC p (N + 6) bd2 A2 c2 ok2 (by omega) 5 v2 x3) ?_
   rintro t29 S29 ⟨d3, bd3, A3, c3, e3, ok3, rfl, rfl⟩
   refine AWL.nil (kpH (tcB i0 (appS (l := F) h0) rfl pinV (tcB i1 (appS (l := F) h1) rfl pinV (tcB i2 (appS (l := F) h2) rfl pinV (tc0)))) ?_)
   refine AWH.one (i := 7) (by kernel_rfl) rfl ?_
   refine cE ce_77 F (BdE p bd3 A3 c3) rfl rfl rfl (cInto p (N + 10) bd3 A3 c3 ok3 (by omega) v1 3 v1 d3) ?_
   rintro t30 S30 ⟨d4, bd4, A4, c4, e4, ok4, rfl, rfl⟩
   refine AWL.nil (kpH (tcB i0 (appS (l := F) h0) rfl pinV (tcB i1 (appS (l := F) h1) rfl pinV (tcB i2 (appS (l := F) h2) rfl pinV (tc0)))) ?_)
   refine AWH.done (by kernel_rfl) ?_
   refine rs (ym ?_)
   refine Y1 (Yv.geq rfl eV eV) (nl ?_)
   refine AW.cond rfl (fun h2t => ?_) (fun h2f => ?_)
   ·try replace h2t := odt h2t
    exfalso; omega
   try replace h2f := odf h2f
   refine AW.skip ?_
   refine retN .nil ?_
   exact ⟨rfl, _, _, _, (bq e1).trans ((bq e2).trans ((bq e3).trans (e4))), ok4, rfl⟩
  try replace h1f := odf h1f
  exfalso; omega
 try replace h0f := odf h0f
 exfalso; omega

def mStartFn : BM Unit :=
 bnd (regM) fun d1 =>
 bnd (putM (insI (29) (d1) (0) (0) (0) (0) (0) (0) (0) (0))) fun _ =>
 bnd (mShr (d1) (7)) fun dm0 =>
 bnd (mShl (dm0) (3)) fun dm1 =>
 bnd (mC (1073741824)) fun d3 =>
 bnd (mStart1a (256) (264) (272) (2) (d3) (dm1)) fun _ =>
 bnd (mStart1a (280) (288) (296) (4) (d3) (dm1)) fun _ =>
 bnd (mStart1b (304) ((-1)) ((-1)) (4) (d3) (dm1)) fun _ =>
 bnd (mStart1c (312) (320) ((-1)) (2) (d3) (dm1)) fun _ =>
 bnd (mIncr (d3) (64)) fun _ =>
 bnd (mOpC (5) (dm1) (4)) fun d9 =>
 bnd (mSetCell (376) (d9)) fun _ =>
 bnd (mSetCell (8) (d3)) fun _ =>
 bnd (mSetCell (0) (d3)) fun _ =>
 bnd (mShl (dm1) (1)) fun d13 =>
 bnd (mC (16777216)) fun d14 =>
 bnd (mThen (3) (d14) (d13) (mStart2 (d13))) fun _ =>
 bnd (mAdd (d3) (d13)) fun d16 =>
 bnd (mSetCell (16) (d16)) fun _ =>
 bnd (mC (1)) fun d18 =>
 bnd (mSetCell (24) (d18)) fun _ =>
 bnd (mC (16777227)) fun d20 =>
 bnd (stepN (fun k => bnd (mSetCell ((32 + (16 * (k : Int)))) (d20)) fun _ =>
 mSetCell (((32 + (16 * (k : Int))) + 8)) (d18)) 8) fun _ =>
 mRet (d18)
def fStartFn : Fn := fnB (mStartFn (bd0 [103, 99, 46, 115, 116, 97, 114, 116] 0)).2
set_option maxHeartbeats 16000000 in
theorem cStartFn_  :
    ACalls Tryz.prog 54 [zi 1] [] (fun t S => t = .agg (fnCells (fStartFn))) := by
 refine ACalls.intro Tryz.func54 rfl Tryz.ntmps54 nB rfl fun X w0 => ?_
 refine rs ?_
 refine AWL.allocOp rfl rfl (B rfl) rfl zc_93 (fun b2 => ?_)
 refine AWL.perm (List.perm_append_singleton _ _).symm (nl ?_)
 refine rs ?_
 refine cE ce_32 [z93 b2] [] rfl rfl rfl (cNew [103, 99, 46, 115, 116, 97, 114, 116] 0) ?_
 rintro t12 S12 ⟨p, rfl, rfl⟩
 have ok0 : BdOk 1 (bd0 [103, 99, 46, 115, 116, 97, 114, 116] 0) := ⟨by decide, by decide, by decide, by decide, by decide, by decide, by decide⟩
 refine AWL.allocOp rfl rfl (B rfl) rfl zc_87 (fun b3 => ?_)
 refine AWL.perm (List.perm_append_singleton _ _).symm ?_
 refine AWL.storeBox (i := 0) rfl rfl rfl ag_87 rfl (E rfl rfl) (E rfl rfl) rfl rfl nB (nl ?_)
 refine rs (yl ag_87 0 ?_)
 refine cE ce_50 [p87 b3 p, z93 b2] (BdE p (bd0 [103, 99, 46, 115, 116, 97, 114, 116] 0) none 0) rfl rfl rfl (cReg p 1 (bd0 [103, 99, 46, 115, 116, 97, 114, 116] 0) none 0 ok0 (by omega) ) ?_
 rintro t14 S14 ⟨d1, bd1, A1, c1, e1, ok1, rfl, rfl⟩
 refine ya ?_
 refine rs (yl ag_87 0 ?_)
 refine ym ?_
 refine Y1 (Yv.buildS rfl sh_98 (evpC eV (evpC eV evp0)) (fun _ => rfl)) ?_
 refine cE ce_51 [p87 b3 p, z93 b2] (BdE p bd1 A1 c1) rfl rfl rfl ((cPut p (1 + 1) bd1 A1 c1 ok1 (by omega) (insI 29 d1 0 0 0 0 0 0 0 0)).le (.cons .refl (.cons nil_le .refl))) ?_
 rintro t18 S18 ⟨d2, bd2, A2, c2, e2, ok2, rfl, rfl⟩
 refine nl ?_
 refine AW.mid (α := Int × Bd × Int × Bd × Option Addr × Nat × Nat) (fun ⟨dm0, bm0, dm1, bm1, Am, cm, b5⟩ => [(0, true, zi (1)), (2, true, pv b2), (3, true, pv b3), (4, true, zi (d1)), (5, true, pv b5)]) (fun ⟨dm0, bm0, dm1, bm1, Am, cm, b5⟩ => [i3 b5 dm1, p87 b3 p, z93 b2] ++ BdE p bm1 Am cm) (fun ⟨dm0, bm0, dm1, bm1, Am, cm, b5⟩ => (mShr (d1) (7)) bd2 = (dm0, bm0) ∧ (mShl (dm0) (3)) bm0 = (dm1, bm1) ∧ BdOk (1 + 10) bm1) ?_ ?_
 ·refine AW.regionH (HeldCs [(b3, 0, Value.pointer (some ⟨p, 0, none⟩))]) rfl (tells_cs (tcB 0 rfl rfl pinV (tc0))) ?_
  refine T2 (i := 0) rfl (heldB 0 rfl ag_87 (E rfl rfl) rfl (fun _ _ => .v _)) ?_
  refine T2 (i := 1) rfl (heldB 0 rfl ag_87 (E rfl rfl) rfl (fun _ _ => .v _)) ?_
  refine T2 (i := 2) rfl (heldAll (freeMove rfl (E rfl rfl))) ?_
  refine AWH.two (i := 3) (j := 5) (by kernel_rfl) rfl rfl ?_ ?_
  ·refine cE ce_74 [p87 b3 p, z93 b2] (BdE p bd2 A2 c2) rfl rfl rfl (cShr p (1 + 2) bd2 A2 c2 ok2 (by omega) d1 7) ?_
   rintro t22 S22 ⟨d3, bd3, A3, c3, e3, ok3, rfl, rfl⟩
   refine AWL.nil (kpH (tcB 0 rfl rfl pinV (tc0)) ?_)
   refine AWH.two (i := 4) (j := 5) (by kernel_rfl) rfl rfl ?_ ?_
   ·refine cE ce_73 [p87 b3 p, z93 b2] (BdE p bd3 A3 c3) rfl rfl rfl (cShl p (1 + 6) bd3 A3 c3 ok3 (by omega) d3 3) ?_
    rintro t23 S23 ⟨d4, bd4, A4, c4, e4, ok4, rfl, rfl⟩
    refine AWL.nil (kpH (tcB 0 rfl rfl pinV (tc0)) ?_)
    refine AWH.one (i := 5) (by kernel_rfl) rfl ?_
    refine AWL.allocOp rfl rfl (B rfl) rfl zc_3 (fun b5 => ?_)
    refine AWL.perm (List.perm_append_singleton _ _).symm ?_
    refine AWL.nil (kpH (tcB 1 rfl rfl pinV (tc0)) ?_)
    refine AWH.one (i := 6) (by kernel_rfl) rfl ?_
    refine AWL.storeBox (i := 0) rfl rfl rfl ag_3 rfl (E rfl rfl) (E rfl rfl) rfl rfl nB ?_
    refine AWL.nil (kpH (tcB 1 rfl rfl pinV (tc0)) ?_)
    refine AWH.done (by kernel_rfl) ?_
    exact ⟨(d3, bd3, d4, bd4, A4, c4, b5), ⟨e3, e4, ok4⟩, (su (su (su (su (su sn))))), rfl⟩
   refine AWL.allocOp rfl rfl (B rfl) rfl zc_3 (fun b5 => ?_)
   refine AWL.perm (List.perm_append_singleton _ _).symm ?_
   refine AWL.nil (kpH (tcB 1 rfl rfl pinV (tc0)) ?_)
   refine AWH.one (i := 4) (by kernel_rfl) rfl ?_
   refine cE ce_73 [Ent.box b5 3 (([.int .i64 0] : List Value).map T.v), p87 b3 p, z93 b2] (BdE p bd3 A3 c3) rfl rfl rfl (cShl p (1 + 6) bd3 A3 c3 ok3 (by omega) d3 3) ?_
   rintro t23 S23 ⟨d4, bd4, A4, c4, e4, ok4, rfl, rfl⟩
   refine AWL.nil (kpH (tcB 1 rfl rfl pinV (tc0)) ?_)
   refine AWH.one (i := 6) (by kernel_rfl) rfl ?_
   refine AWL.storeBox (i := 0) rfl rfl rfl ag_3 rfl (E rfl rfl) (E rfl rfl) rfl rfl nB ?_
   refine AWL.nil (kpH (tcB 1 rfl rfl pinV (tc0)) ?_)
   refine AWH.done (by kernel_rfl) ?_
   exact ⟨(d3, bd3, d4, bd4, A4, c4, b5), ⟨e3, e4, ok4⟩, (su (su (su (su (su sn))))), rfl⟩
  refine AWL.allocOp rfl rfl (B rfl) rfl zc_3 (fun b5 => ?_)
  refine AWL.perm (List.perm_append_singleton _ _).symm ?_
  refine AWL.nil (kpH (tcB 1 rfl rfl pinV (tc0)) ?_)
  refine AWH.one (i := 3) (by kernel_rfl) rfl ?_
  refine cE ce_74 [Ent.box b5 3 (([.int .i64 0] : List Value).map T.v), p87 b3 p, z93 b2] (BdE p bd2 A2 c2) rfl rfl rfl (cShr p (1 + 2) bd2 A2 c2 ok2 (by omega) d1 7) ?_
  rintro t22 S22 ⟨d3, bd3, A3, c3, e3, ok3, rfl, rfl⟩
  refine AWL.nil (kpH (tcB 1 rfl rfl pinV (tc0)) ?_)
  refine AWH.one (i := 4) (by kernel_rfl) rfl ?_
  refine cE ce_73 [Ent.box b5 3 (([.int .i64 0] : List Value).map T.v), p87 b3 p, z93 b2] (BdE p bd3 A3 c3) rfl rfl rfl (cShl p (1 + 6) bd3 A3 c3 ok3 (by omega) d3 3) ?_
  rintro t23 S23 ⟨d4, bd4, A4, c4, e4, ok4, rfl, rfl⟩
  refine AWL.nil (kpH (tcB 1 rfl rfl pinV (tc0)) ?_)
  refine AWH.one (i := 6) (by kernel_rfl) rfl ?_
  refine AWL.storeBox (i := 0) rfl rfl rfl ag_3 rfl (E rfl rfl) (E rfl rfl) rfl rfl nB ?_
  refine AWL.nil (kpH (tcB 1 rfl rfl pinV (tc0)) ?_)
  refine AWH.done (by kernel_rfl) ?_
  exact ⟨(d3, bd3, d4, bd4, A4, c4, b5), ⟨e3, e4, ok4⟩, (su (su (su (su (su sn))))), rfl⟩
 rintro ⟨dm0, bm0, dm1, bm1, Am, cm, b5⟩ ⟨em0, em1, okm⟩
 refine rs (yl ag_87 1 ?_)
 refine cE ce_53 [i3 b5 dm1, p87 b3 p, z93 b2] (BdE p bm1 Am cm) rfl rfl rfl (cC p (1 + 10) bm1 Am cm okm (by omega) 1073741824) ?_
 rintro t25 S25 ⟨d3, bd3, A3, c3, e3, ok3, rfl, rfl⟩
 refine AWL.allocOp rfl rfl (B rfl) rfl zc_3 (fun b6 => ?_)
 refine AWL.perm (List.perm_append_singleton _ _).symm ?_
 refine AWL.storeBox (i := 0) rfl rfl rfl ag_3 rfl (E rfl rfl) (E rfl rfl) rfl rfl nB (nl ?_)
 refine rs (Y1 (Yv.makeFunc rfl evs0 rfl (evsC eV (evsC eV (evsC eV evs0))) rfl) ?_)
 refine ya ?_
 refine rs (ym ?_)
 refine cA ce_75 rfl rfl rfl (cStart1a p (1 + 12) bd3 A3 c3 ok3 (by omega) [i3 b6 d3, i3 b5 dm1, p87 b3 p, z93 b2] 2 b3 rfl 0 b6 d3 rfl 1 b5 dm1 rfl 256 264 272 2 (by decide) (by decide) (by decide)) ?_
 rintro t28 S28 ⟨rfl, bd4, A4, c4, e4, ok4, rfl⟩
 refine nl ?_
 refine rs (ym ?_)
 refine cA ce_75 rfl rfl rfl (cStart1a p (1 + 26) bd4 A4 c4 ok4 (by omega) [i3 b6 d3, i3 b5 dm1, p87 b3 p, z93 b2] 2 b3 rfl 0 b6 d3 rfl 1 b5 dm1 rfl 280 288 296 4 (by decide) (by decide) (by decide)) ?_
 rintro t30 S30 ⟨rfl, bd5, A5, c5, e5, ok5, rfl⟩
 refine nl ?_
 refine rs (ym ?_)
 refine cA ce_75 rfl rfl rfl (cStart1b p (1 + 40) bd5 A5 c5 ok5 (by omega) [i3 b6 d3, i3 b5 dm1, p87 b3 p, z93 b2] 2 b3 rfl 0 b6 d3 rfl 1 b5 dm1 rfl 304 ((-1)) ((-1)) 4 (by decide) (by decide) (by decide)) ?_
 rintro t32 S32 ⟨rfl, bd6, A6, c6, e6, ok6, rfl⟩
 refine nl ?_
 refine rs (ym ?_)
 refine cA ce_75 rfl rfl rfl (cStart1c p (1 + 48) bd6 A6 c6 ok6 (by omega) [i3 b6 d3, i3 b5 dm1, p87 b3 p, z93 b2] 2 b3 rfl 0 b6 d3 rfl 1 b5 dm1 rfl 312 320 ((-1)) 2 (by decide) (by decide) (by decide)) ?_
 rintro t34 S34 ⟨rfl, bd7, A7, c7, e7, ok7, rfl⟩
 refine nl ?_
 refine rs (yl ag_87 2 ?_)
 refine yl ag_3 0 ?_
 refine cE ce_79 [i3 b6 d3, i3 b5 dm1, p87 b3 p, z93 b2] (BdE p bd7 A7 c7) rfl rfl rfl (cIncr p (1 + 59) bd7 A7 c7 ok7 (by omega) d3 64) ?_
 rintro t37 S37 ⟨d8, bd8, A8, c8, e8, ok8, rfl, rfl⟩
 refine nl ?_
 refine AW.rseqH (HeldCs [(b6, 0, Value.int .i64 (d3)), (b5, 0, Value.int .i64 (dm1)), (b3, 0, Value.pointer (some ⟨p, 0, none⟩))]) rfl (tells_cs (tcB 0 rfl rfl pinV (tcB 1 rfl rfl pinV (tcB 2 rfl rfl pinV (tc0))))) ?_
 refine T2 (i := 0) rfl (heldB 2 rfl ag_87 (E rfl rfl) rfl (fun _ _ => .v _)) ?_
 refine T2 (i := 1) rfl (heldB 2 rfl ag_87 (E rfl rfl) rfl (fun _ _ => .v _)) ?_
 refine AWH.one (i := 2) (by kernel_rfl) rfl ?_
 refine yl ag_3 1 ?_
 refine AWL.nil (kpH (tcB 0 rfl rfl pinV (tcB 1 rfl rfl pinV (tcB 2 rfl rfl pinV (tc0)))) ?_)
 refine AWH.one (i := 3) (by kernel_rfl) rfl ?_
 refine cE ce_78 [i3 b6 d3, i3 b5 dm1, p87 b3 p, z93 b2] (BdE p bd8 A8 c8) rfl rfl rfl (cOpC p (1 + 62) bd8 A8 c8 ok8 (by omega) 5 dm1 4) ?_
 rintro t41 S41 ⟨d9, bd9, A9, c9, e9, ok9, rfl, rfl⟩
 refine AWL.nil (kpH (tcB 0 rfl rfl pinV (tcB 1 rfl rfl pinV (tcB 2 rfl rfl pinV (tc0)))) ?_)
 refine AWH.one (i := 4) (by kernel_rfl) rfl ?_
 refine cE ce_76 [i3 b6 d3, i3 b5 dm1, p87 b3 p, z93 b2] (BdE p bd9 A9 c9) rfl rfl rfl (cSetCell p (1 + 66) bd9 A9 c9 ok9 (by omega) 376 d9) ?_
 rintro t42 S42 ⟨d10, bd10, A10, c10, e10, ok10, rfl, rfl⟩
 refine AWL.nil (kpH (tcB 0 rfl rfl pinV (tcB 1 rfl rfl pinV (tcB 2 rfl rfl pinV (tc0)))) ?_)
 refine AWH.done (by kernel_rfl) ?_
 refine rs (yl ag_87 2 ?_)
 refine yl ag_3 0 ?_
 refine cE ce_76 [i3 b6 d3, i3 b5 dm1, p87 b3 p, z93 b2] (BdE p bd10 A10 c10) rfl rfl rfl (cSetCell p (1 + 69) bd10 A10 c10 ok10 (by omega) 8 d3) ?_
 rintro t45 S45 ⟨d11, bd11, A11, c11, e11, ok11, rfl, rfl⟩
 refine nl ?_
 refine rs (yl ag_87 2 ?_)
 refine yl ag_3 0 ?_
 refine cE ce_76 [i3 b6 d3, i3 b5 dm1, p87 b3 p, z93 b2] (BdE p bd11 A11 c11) rfl rfl rfl (cSetCell p (1 + 72) bd11 A11 c11 ok11 (by omega) 0 d3) ?_
 rintro t48 S48 ⟨d12, bd12, A12, c12, e12, ok12, rfl, rfl⟩
 refine nl ?_
 refine rs (yl ag_87 2 ?_)
 refine yl ag_3 1 ?_
 refine cE ce_73 [i3 b6 d3, i3 b5 dm1, p87 b3 p, z93 b2] (BdE p bd12 A12 c12) rfl rfl rfl (cShl p (1 + 75) bd12 A12 c12 ok12 (by omega) dm1 1) ?_
 rintro t51 S51 ⟨d13, bd13, A13, c13, e13, ok13, rfl, rfl⟩
 refine AWL.allocOp rfl rfl (B rfl) rfl zc_3 (fun b8 => ?_)
 refine AWL.perm (List.perm_append_singleton _ _).symm ?_
 refine AWL.storeBox (i := 0) rfl rfl rfl ag_3 rfl (E rfl rfl) (E rfl rfl) rfl rfl nB (nl ?_)
 refine AW.rseqH (HeldCs [(b8, 0, Value.int .i64 (d13)), (b6, 0, Value.int .i64 (d3)), (b5, 0, Value.int .i64 (dm1)), (b3, 0, Value.pointer (some ⟨p, 0, none⟩))]) rfl (tells_cs (tcB 0 rfl rfl pinV (tcB 1 rfl rfl pinV (tcB 2 rfl rfl pinV (tcB 3 rfl rfl pinV (tc0)))))) ?_
 refine T2 (i := 0) rfl (heldB 3 rfl ag_87 (E rfl rfl) rfl (fun _ _ => .v _)) ?_
 refine T2 (i := 1) rfl (heldB 3 rfl ag_87 (E rfl rfl) rfl (fun _ _ => .v _)) ?_
 refine T2 (i := 3) rfl (heldB 0 rfl ag_3 (E rfl rfl) rfl (fun _ _ => .v _)) ?_
 refine T2 (i := 4) rfl (heldAll (freeMk rfl evs0 rfl (evsC (E rfl rfl) (evsC (E rfl rfl) evs0)) rfl)) ?_
 refine AWH.one (i := 2) (by kernel_rfl) rfl ?_
 refine cE ce_53 [i3 b8 d13, i3 b6 d3, i3 b5 dm1, p87 b3 p, z93 b2] (BdE p bd13 A13 c13) rfl rfl rfl (cC p (1 + 79) bd13 A13 c13 ok13 (by omega) 16777216) ?_
 rintro t54 S54 ⟨d14, bd14, A14, c14, e14, ok14, rfl, rfl⟩
 refine AWL.nil (kpH (tcB 0 rfl rfl pinV (tcB 1 rfl rfl pinV (tcB 2 rfl rfl pinV (tcB 3 rfl rfl pinV (tc0))))) ?_)
 refine AWH.one (i := 5) (by kernel_rfl) rfl ?_
 refine cA ce_80 rfl rfl rfl (cThen p (1 + 81) 1 bd14 A14 c14 ok14 (by omega) 3 d14 d13 81 #[.pointer (some ⟨b3, 0, none⟩), .pointer (some ⟨b8, 0, none⟩)] [i3 b8 d13, i3 b6 d3, i3 b5 dm1, p87 b3 p, z93 b2] (mStart2 d13) ce_81 (fun bd9 A9 c9 ok9 => cStart2 p _ bd9 A9 c9 ok9 (by omega) [i3 b8 d13, i3 b6 d3, i3 b5 dm1, p87 b3 p, z93 b2] 3 b3 rfl 0 b8 d13 rfl)) ?_
 rintro t57 S57 ⟨rfl, bd15, A15, c15, e15, ok15, rfl⟩
 refine AWL.nil (kpH (tcB 0 rfl rfl pinV (tcB 1 rfl rfl pinV (tcB 2 rfl rfl pinV (tcB 3 rfl rfl pinV (tc0))))) ?_)
 refine AWH.done (by kernel_rfl) ?_
 refine AW.rseqH (HeldCs [(b8, 0, Value.int .i64 (d13)), (b6, 0, Value.int .i64 (d3)), (b5, 0, Value.int .i64 (dm1)), (b3, 0, Value.pointer (some ⟨p, 0, none⟩))]) rfl (tells_cs (tcB 0 rfl rfl pinV (tcB 1 rfl rfl pinV (tcB 2 rfl rfl pinV (tcB 3 rfl rfl pinV (tc0)))))) ?_
 refine T2 (i := 0) rfl (heldB 3 rfl ag_87 (E rfl rfl) rfl (fun _ _ => .v _)) ?_
 refine T2 (i := 1) rfl (heldB 3 rfl ag_87 (E rfl rfl) rfl (fun _ _ => .v _)) ?_
 refine T2 (i := 2) rfl (heldB 1 rfl ag_3 (E rfl rfl) rfl (fun _ _ => .v _)) ?_
 refine AWH.one (i := 3) (by kernel_rfl) rfl ?_
 refine yl ag_3 0 ?_
 refine AWL.nil (kpH (tcB 0 rfl rfl pinV (tcB 1 rfl rfl pinV (tcB 2 rfl rfl pinV (tcB 3 rfl rfl pinV (tc0))))) ?_)
 refine AWH.one (i := 4) (by kernel_rfl) rfl ?_
 refine cE ce_83 [i3 b8 d13, i3 b6 d3, i3 b5 dm1, p87 b3 p, z93 b2] (BdE p bd15 A15 c15) rfl rfl rfl (cAdd p (1 + 85) bd15 A15 c15 ok15 (by omega) d3 d13) ?_
 rintro t62 S62 ⟨d16, bd16, A16, c16, e16, ok16, rfl, rfl⟩
 refine AWL.nil (kpH (tcB 0 rfl rfl pinV (tcB 1 rfl rfl pinV (tcB 2 rfl rfl pinV (tcB 3 rfl rfl pinV (tc0))))) ?_)
 refine AWH.one (i := 5) (by kernel_rfl) rfl ?_
 refine cE ce_76 [i3 b8 d13, i3 b6 d3, i3 b5 dm1, p87 b3 p, z93 b2] (BdE p bd16 A16 c16) rfl rfl rfl (cSetCell p (1 + 87) bd16 A16 c16 ok16 (by omega) 16 d16) ?_
 rintro t63 S63 ⟨d17, bd17, A17, c17, e17, ok17, rfl, rfl⟩
 refine AWL.nil (kpH (tcB 0 rfl rfl pinV (tcB 1 rfl rfl pinV (tcB 2 rfl rfl pinV (tcB 3 rfl rfl pinV (tc0))))) ?_)
 refine AWH.done (by kernel_rfl) ?_
 refine rs (yl ag_87 3 ?_)
 refine cE ce_53 [i3 b8 d13, i3 b6 d3, i3 b5 dm1, p87 b3 p, z93 b2] (BdE p bd17 A17 c17) rfl rfl rfl (cC p (1 + 90) bd17 A17 c17 ok17 (by omega) 1) ?_
 rintro t65 S65 ⟨d18, bd18, A18, c18, e18, ok18, rfl, rfl⟩
 refine ya ?_
 refine rs (yl ag_87 3 ?_)
 refine ym ?_
 refine cE ce_76 [i3 b8 d13, i3 b6 d3, i3 b5 dm1, p87 b3 p, z93 b2] (BdE p bd18 A18 c18) rfl rfl rfl (cSetCell p (1 + 92) bd18 A18 c18 ok18 (by omega) 24 d18) ?_
 rintro t68 S68 ⟨d19, bd19, A19, c19, e19, ok19, rfl, rfl⟩
 refine nl ?_
 refine rs (yl ag_87 3 ?_)
 refine cE ce_53 [i3 b8 d13, i3 b6 d3, i3 b5 dm1, p87 b3 p, z93 b2] (BdE p bd19 A19 c19) rfl rfl rfl (cC p (1 + 95) bd19 A19 c19 ok19 (by omega) 16777227) ?_
 rintro t70 S70 ⟨d20, bd20, A20, c20, e20, ok20, rfl, rfl⟩
 refine ya ?_
 refine AW.seq ?_
 refine ra ?_
 refine AW.block ?_
 refine AW.loop4 (fun (k : Nat) (lb : Bd) (lA : Option Addr) (lc : Nat) => [(0, true, zi (1)), (2, true, pv b2), (3, true, pv b3), (4, true, zi (d1)), (5, true, pv b5), (6, true, pv b6), (8, true, pv b8), (9, true, zi (d18)), (10, true, zi (d20)), (11, true, zi (k : Int))]) (fun (k : Nat) (lb : Bd) (lA : Option Addr) (lc : Nat) => ([i3 b8 d13, i3 b6 d3, i3 b5 dm1, p87 b3 p, z93 b2] ++ BdE p lb lA lc)) (fun (k : Nat) (lb : Bd) (lA : Option Addr) (lc : Nat) => stepN (fun k => bnd (mSetCell ((32 + (16 * (k : Int)))) (d20)) fun _ =>
  mSetCell (((32 + (16 * (k : Int))) + 8)) (d18)) k bd20 = ((), lb) ∧ BdOk ((1 + 97) + 6 * k) lb ∧ k ≤ 8) (fun (k : Nat) (lb : Bd) (lA : Option Addr) (lc : Nat) => 8 - k) 0 bd20 A20 c20 ?_ ?_ ?_ ?_
 ·exact ⟨rfl, ok20.mono (by omega), by omega⟩
 ·exact (su (su (su (su (su (su (su (su (su (su sn))))))))))
 ·rfl
 intro k lb lA lc ⟨hst, okL, hle⟩
 refine AW.seq ?_
 refine rs (ym ?_)
 refine Y1 (Yv.lss rfl eV eV) (nl ?_)
 refine AW.cond rfl (fun h0t => ?_) (fun h0f => ?_)
 ·try replace h0t := odt h0t
  have hk : k < 8 := by omega
  refine AW.skip ?_
  refine AW.seq ?_
  refine AW.block ?_
  refine rs (yl ag_87 3 ?_)
  refine ym ?_
  refine Y1 (Yv.mulN_i64 rfl eV eV (fun hg => by omega)) ?_
  refine Y1 (Yv.addN_i64 rfl eV eV (fun hg => by omega)) ?_
  refine ym ?_
  refine cE ce_76 [i3 b8 d13, i3 b6 d3, i3 b5 dm1, p87 b3 p, z93 b2] (BdE p lb lA lc) rfl rfl rfl (cSetCell p ((1 + 97) + 6 * k) lb lA lc okL (by omega) ((32 + (16 * (k : Int)))) d20) ?_
  rintro t80 S80 ⟨d21, bd21, A21, c21, e21, ok21, rfl, rfl⟩
  refine nl ?_
  refine AW.region ?_
  refine yl ag_87 3 ?_
  refine ym ?_
  refine Y1 (Yv.mulN_i64 rfl eV eV (fun hg => by omega)) ?_
  refine Y1 (Yv.addN_i64 rfl eV eV (fun hg => by omega)) ?_
  refine Y1 (Yv.addN_i64 rfl eV eV (fun hg => by omega)) ?_
  refine ym ?_
  refine cE ce_76 [i3 b8 d13, i3 b6 d3, i3 b5 dm1, p87 b3 p, z93 b2] (BdE p bd21 A21 c21) rfl rfl rfl (cSetCell p (((1 + 97) + 6 * k) + 3) bd21 A21 c21 ok21 (by omega) (((32 + (16 * (k : Int))) + 8)) d18) ?_
  rintro t87 S87 ⟨d22, bd22, A22, c22, e22, ok22, rfl, rfl⟩
  refine nl ?_
  refine AW.region ?_
  refine ym ?_
  refine Y1 (Yv.addN_i64 rfl eV eV (fun hg => by omega)) ?_
  refine ya ?_
  refine ⟨k + 1, bd22, A22, c22, ⟨stepN_succ hst ((bq e21).trans (e22)), ok22.mono (by omega), by omega⟩, by omega, (su (su (su (su (su (su (su (su (su (su sn)))))))))), rfl⟩
 try replace h0f := odf h0f
 obtain rfl : k = 8 := by omega
 refine AW.exit ?_
 refine rs (yl ag_87 3 ?_)
 refine ym ?_
 refine cE ce_52 [i3 b8 d13, i3 b6 d3, i3 b5 dm1, p87 b3 p, z93 b2] (BdE p lb lA lc) rfl rfl rfl (cRet p ((1 + 97) + 6 * 8) lb lA lc okL (by omega) d18) ?_
 rintro t90 S90 ⟨d21, bd21, A21, c21, e21, ok21, rfl, rfl⟩
 refine nl ?_
 refine rs (yl ag_87 3 ?_)
 refine cE ce_35 [i3 b8 d13, i3 b6 d3, i3 b5 dm1, p87 b3 p, z93 b2] (BdE p bd21 A21 c21) rfl rfl rfl (cDone p bd21 A21 c21) ?_
 rintro t92 S92 ⟨rfl, rfl⟩
 refine AWL.storeBox (i := 4) rfl rfl rfl ag_93 rfl (E rfl rfl) (E rfl rfl) rfl rfl nB (nl ?_)
 refine AW.ret (retI (.cellA (i := 4) rfl ag_93 rfl rfl rfl .nil) ?_)
 show _ = T.agg (fnCells (fnB (mStartFn (bd0 [103, 99, 46, 115, 116, 97, 114, 116] 0)).2))
 rw [show mStartFn (bd0 [103, 99, 46, 115, 116, 97, 114, 116] 0) = ((), bd21) from (bq e1).trans ((bq e2).trans ((bq em0).trans ((bq em1).trans ((bq e3).trans ((bq e4).trans ((bq e5).trans ((bq e6).trans ((bq e7).trans ((bq e8).trans ((bq e9).trans ((bq e10).trans ((bq e11).trans ((bq e12).trans ((bq e13).trans ((bq e14).trans ((bq e15).trans ((bq e16).trans ((bq e17).trans ((bq e18).trans ((bq e19).trans ((bq e20).trans ((bq hst).trans (e21)))))))))))))))))))))))]
 rfl

theorem cStartFn : ACalls Tryz.prog 54 [zi 1] [] (fun t S => t = .agg (fnCells fStartFn) ∧ S = []) := (cStartFn_).less fun t S' h => ⟨[], List.nil_sublist _, h, rfl⟩
def mSizeFn : BM Unit :=
 bnd (mShr (0) (1)) fun d1 =>
 bnd (mAnd (d1) (15)) fun d2 =>
 bnd (mShr (0) (24)) fun d3 =>
 bnd (mShl (d3) (3)) fun d4 =>
 bnd (labelM) fun d5 =>
 bnd (stepN (fun k => mIfC (1) (d2) ((([2, 7, 3, 4] : List Int).getD k 0)) (d5)) 4) fun _ =>
 bnd (mAddC (d4) (8)) fun d6 =>
 bnd (mRet (d6)) fun _ =>
 bnd (mAt (d5)) fun _ =>
 bnd (mAddC (d3) (7)) fun d9 =>
 bnd (mShr (d9) (3)) fun d10 =>
 bnd (mShl (d10) (3)) fun d11 =>
 bnd (mAddC (d11) (8)) fun d12 =>
 mRet (d12)
def fSizeFn : Fn := fnB (mSizeFn (bd0 [103, 99, 46, 115, 105, 122, 101] 1)).2
set_option maxHeartbeats 16000000 in
theorem cSizeFn_  :
    ACalls Tryz.prog 60 [] [] (fun t S => t = .agg (fnCells (fSizeFn))) := by
 refine ACalls.intro Tryz.func60 rfl Tryz.ntmps60 nB rfl fun X w0 => ?_
 refine rs ?_
 refine AWL.allocOp rfl rfl (B rfl) rfl zc_93 (fun b0 => ?_)
 refine AWL.perm (List.perm_append_singleton _ _).symm (nl ?_)
 refine rs ?_
 refine cE ce_32 [z93 b0] [] rfl rfl rfl (cNew [103, 99, 46, 115, 105, 122, 101] 1) ?_
 rintro t9 S9 ⟨p, rfl, rfl⟩
 have ok0 : BdOk 1 (bd0 [103, 99, 46, 115, 105, 122, 101] 1) := ⟨by decide, by decide, by decide, by decide, by decide, by decide, by decide⟩
 refine ya ?_
 refine ra ?_
 refine rs (ym ?_)
 refine ym ?_
 refine ym ?_
 refine cE ce_74 [z93 b0] (BdE p (bd0 [103, 99, 46, 115, 105, 122, 101] 1) none 0) rfl rfl rfl (cShr p 1 (bd0 [103, 99, 46, 115, 105, 122, 101] 1) none 0 ok0 (by omega) 0 1) ?_
 rintro t13 S13 ⟨d1, bd1, A1, c1, e1, ok1, rfl, rfl⟩
 refine cE ce_100 [z93 b0] (BdE p bd1 A1 c1) rfl rfl rfl (cAnd p (1 + 4) bd1 A1 c1 ok1 (by omega) d1 15) ?_
 rintro t14 S14 ⟨d2, bd2, A2, c2, e2, ok2, rfl, rfl⟩
 refine ya ?_
 refine rs (ym ?_)
 refine ym ?_
 refine cE ce_74 [z93 b0] (BdE p bd2 A2 c2) rfl rfl rfl (cShr p (1 + 8) bd2 A2 c2 ok2 (by omega) 0 24) ?_
 rintro t17 S17 ⟨d3, bd3, A3, c3, e3, ok3, rfl, rfl⟩
 refine ya ?_
 refine rs (ym ?_)
 refine ym ?_
 refine cE ce_73 [z93 b0] (BdE p bd3 A3 c3) rfl rfl rfl (cShl p (1 + 12) bd3 A3 c3 ok3 (by omega) d3 3) ?_
 rintro t20 S20 ⟨d4, bd4, A4, c4, e4, ok4, rfl, rfl⟩
 refine ya ?_
 refine rs (ym ?_)
 refine cE ce_84 [z93 b0] (BdE p bd4 A4 c4) rfl rfl rfl (cLabel p (1 + 16) bd4 A4 c4 ok4 (by omega) ) ?_
 rintro t22 S22 ⟨d5, bd5, A5, c5, e5, ok5, rfl, rfl⟩
 refine ya ?_
 refine AW.seq ?_
 refine rs ?_
 refine AWL.buildSlice1 rfl rfl (B rfl) rfl el_161 rfl (evsC (E rfl rfl) (evsC (E rfl rfl) (evsC (E rfl rfl) (evsC (E rfl rfl) evs0)))) nB rfl rfl ?_
 refine Y1 (Yv.lenSl rfl so_161 (B rfl) eV len4) ?_
 refine ym (nl ?_)
 refine AW.block ?_
 refine AW.loop4 (fun (k : Nat) (lb : Bd) (lA : Option Addr) (lc : Nat) => [(0, true, pv b0), (1, true, pv p), (2, true, zi (0)), (3, true, zi (d2)), (4, true, zi (d3)), (5, true, zi (d4)), (6, true, zi (d5)), (23, true, .sl 1 (([2, 7, 3, 4] : List Int).map zi)), (24, true, zi (4)), (25, true, zi (k : Int))]) (fun (k : Nat) (lb : Bd) (lA : Option Addr) (lc : Nat) => ([z93 b0] ++ BdE p lb lA lc)) (fun (k : Nat) (lb : Bd) (lA : Option Addr) (lc : Nat) => stepN (fun k => mIfC (1) (d2) ((([2, 7, 3, 4] : List Int).getD k 0)) (d5)) k bd5 = ((), lb) ∧ BdOk ((1 + 17) + 3 * k) lb ∧ k ≤ 4) (fun (k : Nat) (lb : Bd) (lA : Option Addr) (lc : Nat) => 4 - k) 0 bd5 A5 c5 ?_ ?_ ?_ ?_
 ·exact ⟨rfl, ok5.mono (by omega), by omega⟩
 ·exact (su (su (su (su (su (su (su (su (su (su sn))))))))))
 ·rfl
 intro k lb lA lc ⟨hst, okL, hle⟩
 refine rs (Y1 (Yv.lss rfl eV eV) (nl ?_))
 refine AW.seq ?_
 refine AW.cond rfl (fun h0t => ?_) (fun h0f => ?_)
 ·try replace h0t := odt h0t
  have hk : k < 4 := by omega
  refine AW.skip ?_
  refine AW.seq ?_
  refine AW.block ?_
  refine rs (Y1 (Yv.indexSl rfl ss_161 (B rfl) eV eV (fun hg => ⟨rfl, (by first | omega | (simp only [len4, len3, List.length_map, List.length_cons, List.length_nil]; omega))⟩)) ?_)
  refine Y1 (Yv.loadRp rfl ag_2 eV (fun hg => lit_at (l := [2, 7, 3, 4]) (by show k < 4; omega))) ?_
  refine ya ?_
  refine AW.region ?_
  refine ym ?_
  refine ym ?_
  refine ym ?_
  refine ym ?_
  refine cE ce_107 [z93 b0] (BdE p lb lA lc) rfl rfl rfl (cIfC p ((1 + 17) + 3 * k) lb lA lc okL (by omega) 1 d2 ((([2, 7, 3, 4] : List Int).getD k 0)) d5) ?_
  rintro t33 S33 ⟨d6, bd6, A6, c6, e6, ok6, rfl, rfl⟩
  refine nl ?_
  refine AW.region ?_
  refine Y1 (Yv.addN_i64 rfl eV eV (fun hg => by omega)) ?_
  refine ym (nl ?_)
  refine ⟨k + 1, bd6, A6, c6, ⟨stepN_succ hst (e6), ok6.mono (by omega), by omega⟩, by omega, (su (su (su (su (su (su (su (su (su (su sn)))))))))), rfl⟩
 try replace h0f := odf h0f
 obtain rfl : k = 4 := by omega
 refine AW.exit ?_
 refine rs (ym ?_)
 refine ym ?_
 refine ym ?_
 refine cE ce_93 [z93 b0] (BdE p lb lA lc) rfl rfl rfl (cAddC p ((1 + 17) + 3 * 4) lb lA lc okL (by omega) d4 8) ?_
 rintro t38 S38 ⟨d6, bd6, A6, c6, e6, ok6, rfl, rfl⟩
 refine cE ce_52 [z93 b0] (BdE p bd6 A6 c6) rfl rfl rfl (cRet p (((1 + 17) + 3 * 4) + 4) bd6 A6 c6 ok6 (by omega) d6) ?_
 rintro t39 S39 ⟨d7, bd7, A7, c7, e7, ok7, rfl, rfl⟩
 refine nl ?_
 refine rs (ym ?_)
 refine ym ?_
 refine cE ce_88 [z93 b0] (BdE p bd7 A7 c7) rfl rfl rfl (cAt p (((1 + 17) + 3 * 4) + 5) bd7 A7 c7 ok7 (by omega) d5) ?_
 rintro t42 S42 ⟨d8, bd8, A8, c8, e8, ok8, rfl, rfl⟩
 refine nl ?_
 refine rs (ym ?_)
 refine ym ?_
 refine ym ?_
 refine ym ?_
 refine ym ?_
 refine ym ?_
 refine cE ce_93 [z93 b0] (BdE p bd8 A8 c8) rfl rfl rfl (cAddC p (((1 + 17) + 3 * 4) + 6) bd8 A8 c8 ok8 (by omega) d3 7) ?_
 rintro t49 S49 ⟨d9, bd9, A9, c9, e9, ok9, rfl, rfl⟩
 refine cE ce_74 [z93 b0] (BdE p bd9 A9 c9) rfl rfl rfl (cShr p (((1 + 17) + 3 * 4) + 10) bd9 A9 c9 ok9 (by omega) d9 3) ?_
 rintro t50 S50 ⟨d10, bd10, A10, c10, e10, ok10, rfl, rfl⟩
 refine cE ce_73 [z93 b0] (BdE p bd10 A10 c10) rfl rfl rfl (cShl p (((1 + 17) + 3 * 4) + 14) bd10 A10 c10 ok10 (by omega) d10 3) ?_
 rintro t51 S51 ⟨d11, bd11, A11, c11, e11, ok11, rfl, rfl⟩
 refine cE ce_93 [z93 b0] (BdE p bd11 A11 c11) rfl rfl rfl (cAddC p (((1 + 17) + 3 * 4) + 18) bd11 A11 c11 ok11 (by omega) d11 8) ?_
 rintro t52 S52 ⟨d12, bd12, A12, c12, e12, ok12, rfl, rfl⟩
 refine cE ce_52 [z93 b0] (BdE p bd12 A12 c12) rfl rfl rfl (cRet p (((1 + 17) + 3 * 4) + 22) bd12 A12 c12 ok12 (by omega) d12) ?_
 rintro t53 S53 ⟨d13, bd13, A13, c13, e13, ok13, rfl, rfl⟩
 refine nl ?_
 refine rs (ym ?_)
 refine cE ce_35 [z93 b0] (BdE p bd13 A13 c13) rfl rfl rfl (cDone p bd13 A13 c13) ?_
 rintro t55 S55 ⟨rfl, rfl⟩
 refine AWL.storeBox (i := 0) rfl rfl rfl ag_93 rfl (E rfl rfl) (E rfl rfl) rfl rfl nB (nl ?_)
 refine AW.ret (retI (.cellA (i := 0) rfl ag_93 rfl rfl rfl .nil) ?_)
 show _ = T.agg (fnCells (fnB (mSizeFn (bd0 [103, 99, 46, 115, 105, 122, 101] 1)).2))
 rw [show mSizeFn (bd0 [103, 99, 46, 115, 105, 122, 101] 1) = ((), bd13) from (bq e1).trans ((bq e2).trans ((bq e3).trans ((bq e4).trans ((bq e5).trans ((bq hst).trans ((bq e6).trans ((bq e7).trans ((bq e8).trans ((bq e9).trans ((bq e10).trans ((bq e11).trans ((bq e12).trans (e13)))))))))))))]
 rfl

theorem cSizeFn : ACalls Tryz.prog 60 [] [] (fun t S => t = .agg (fnCells fSizeFn) ∧ S = []) := (cSizeFn_).less fun t S' h => ⟨[], List.nil_sublist _, h, rfl⟩
def mScanFn : BM Unit :=
 bnd (mGet (0) (0)) fun d1 =>
 bnd (mShr (d1) (1)) fun d2 =>
 bnd (mAnd (d2) (15)) fun d3 =>
 bnd (mCall ((1 + 6)) [d1]) fun d4 =>
 bnd (mAdd (0) (d4)) fun d5 =>
 bnd (mAddC (0) (8)) fun d6 =>
 bnd (labelM) fun d7 =>
 bnd (stepN (fun k => mIfC (1) (d3) ((([1, 5, 6] : List Int).getD k 0)) (d7)) 3) fun _ =>
 bnd (labelM) fun d8 =>
 bnd (mIfC (1) (d3) (8) (d8)) fun _ =>
 bnd (mRet (d5)) fun _ =>
 bnd (mAt (d8)) fun _ =>
 bnd (mIncr (d6) (8)) fun _ =>
 bnd (mAt (d7)) fun _ =>
 bnd (mWhile (5) (mScan1 (d6) (d5)) (mScan2 (d6))) fun _ =>
 mRet (d5)
def fScanFn : Fn := fnB (mScanFn (bd0 [103, 99, 46, 115, 99, 97, 110] 1)).2
set_option maxHeartbeats 16000000 in
theorem cScanFn_  :
    ACalls Tryz.prog 63 [zi 1] [] (fun t S => t = .agg (fnCells (fScanFn))) := by
 refine ACalls.intro Tryz.func63 rfl Tryz.ntmps63 nB rfl fun X w0 => ?_
 refine rs ?_
 refine AWL.boxOp rfl rfl (B rfl) rfl (E rfl rfl) rfl (fun b1 => ?_)
 refine AWL.perm (List.perm_append_singleton _ _).symm ?_
 refine AWL.allocOp rfl rfl (B rfl) rfl zc_93 (fun b2 => ?_)
 refine AWL.perm (List.perm_append_singleton _ _).symm (nl ?_)
 refine rs ?_
 refine cE ce_32 [z93 b2, i3 b1 1] [] rfl rfl rfl (cNew [103, 99, 46, 115, 99, 97, 110] 1) ?_
 rintro t14 S14 ⟨p, rfl, rfl⟩
 have ok0 : BdOk 1 (bd0 [103, 99, 46, 115, 99, 97, 110] 1) := ⟨by decide, by decide, by decide, by decide, by decide, by decide, by decide⟩
 refine AWL.allocOp rfl rfl (B rfl) rfl zc_87 (fun b3 => ?_)
 refine AWL.perm (List.perm_append_singleton _ _).symm ?_
 refine AWL.storeBox (i := 0) rfl rfl rfl ag_87 rfl (E rfl rfl) (E rfl rfl) rfl rfl nB (nl ?_)
 refine ra ?_
 refine rs (yl ag_87 0 ?_)
 refine ym ?_
 refine cE ce_99 [p87 b3 p, z93 b2, i3 b1 1] (BdE p (bd0 [103, 99, 46, 115, 99, 97, 110] 1) none 0) rfl rfl rfl (cGet p 1 (bd0 [103, 99, 46, 115, 99, 97, 110] 1) none 0 ok0 (by omega) 0 0) ?_
 rintro t17 S17 ⟨d1, bd1, A1, c1, e1, ok1, rfl, rfl⟩
 refine ya ?_
 refine AW.rseqH (HeldCs [(b3, 0, Value.pointer (some ⟨p, 0, none⟩)), (b1, 0, Value.int .i64 (1))]) rfl (tells_cs (tcB 0 rfl rfl pinV (tcB 2 rfl rfl pinV (tc0)))) ?_
 refine T2 (i := 0) rfl (heldB 0 rfl ag_87 (E rfl rfl) rfl (fun _ _ => .v _)) ?_
 refine T2 (i := 1) rfl (heldB 0 rfl ag_87 (E rfl rfl) rfl (fun _ _ => .v _)) ?_
 refine AWH.one (i := 2) (by kernel_rfl) rfl ?_
 refine ym ?_
 refine AWL.nil (kpH (tcB 0 rfl rfl pinV (tcB 2 rfl rfl pinV (tc0))) ?_)
 refine AWH.one (i := 3) (by kernel_rfl) rfl ?_
 refine cE ce_74 [p87 b3 p, z93 b2, i3 b1 1] (BdE p bd1 A1 c1) rfl rfl rfl (cShr p (1 + 2) bd1 A1 c1 ok1 (by omega) d1 1) ?_
 rintro t21 S21 ⟨d2, bd2, A2, c2, e2, ok2, rfl, rfl⟩
 refine AWL.nil (kpH (tcB 0 rfl rfl pinV (tcB 2 rfl rfl pinV (tc0))) ?_)
 refine AWH.one (i := 4) (by kernel_rfl) rfl ?_
 refine cE ce_100 [p87 b3 p, z93 b2, i3 b1 1] (BdE p bd2 A2 c2) rfl rfl rfl (cAnd p (1 + 6) bd2 A2 c2 ok2 (by omega) d2 15) ?_
 rintro t22 S22 ⟨d3, bd3, A3, c3, e3, ok3, rfl, rfl⟩
 refine AWL.nil (kpH (tcB 0 rfl rfl pinV (tcB 2 rfl rfl pinV (tc0))) ?_)
 refine AWH.one (i := 5) (by kernel_rfl) rfl ?_
 refine Y1 (Yv.assign rfl eV) ?_
 refine AWL.nil (kpH (tcB 0 rfl rfl pinV (tcB 2 rfl rfl pinV (tc0))) ?_)
 refine AWH.done (by kernel_rfl) ?_
 refine rs (yl ag_87 0 ?_)
 refine yl ag_3 2 ?_
 refine Y1 (Yv.addN_i64 rfl eV eV (fun hg => by omega)) ?_
 refine ym ?_
 refine AWL.buildSlice1 rfl rfl (B rfl) rfl el_35 rfl (evsC (E rfl rfl) evs0) nB rfl rfl ?_
 refine cE ce_33 [p87 b3 p, z93 b2, i3 b1 1] (BdE p bd3 A3 c3) rfl rfl rfl (cCall p (1 + 10) bd3 A3 c3 ok3 (by omega) ((1 + 6)) [d1]) ?_
 rintro t28 S28 ⟨d4, bd4, A4, c4, e4, ok4, rfl, rfl⟩
 refine ya ?_
 refine rs (yl ag_87 0 ?_)
 refine ym ?_
 refine ym ?_
 refine cE ce_83 [p87 b3 p, z93 b2, i3 b1 1] (BdE p bd4 A4 c4) rfl rfl rfl (cAdd p (1 + 12) bd4 A4 c4 ok4 (by omega) 0 d4) ?_
 rintro t32 S32 ⟨d5, bd5, A5, c5, e5, ok5, rfl, rfl⟩
 refine AWL.allocOp rfl rfl (B rfl) rfl zc_3 (fun b8 => ?_)
 refine AWL.perm (List.perm_append_singleton _ _).symm ?_
 refine AWL.storeBox (i := 0) rfl rfl rfl ag_3 rfl (E rfl rfl) (E rfl rfl) rfl rfl nB (nl ?_)
 refine rs (yl ag_87 1 ?_)
 refine ym ?_
 refine cE ce_93 [i3 b8 d5, p87 b3 p, z93 b2, i3 b1 1] (BdE p bd5 A5 c5) rfl rfl rfl (cAddC p (1 + 14) bd5 A5 c5 ok5 (by omega) 0 8) ?_
 rintro t35 S35 ⟨d6, bd6, A6, c6, e6, ok6, rfl, rfl⟩
 refine AWL.allocOp rfl rfl (B rfl) rfl zc_3 (fun b9 => ?_)
 refine AWL.perm (List.perm_append_singleton _ _).symm ?_
 refine AWL.storeBox (i := 0) rfl rfl rfl ag_3 rfl (E rfl rfl) (E rfl rfl) rfl rfl nB (nl ?_)
 refine rs (yl ag_87 2 ?_)
 refine cE ce_84 [i3 b9 d6, i3 b8 d5, p87 b3 p, z93 b2, i3 b1 1] (BdE p bd6 A6 c6) rfl rfl rfl (cLabel p (1 + 18) bd6 A6 c6 ok6 (by omega) ) ?_
 rintro t37 S37 ⟨d7, bd7, A7, c7, e7, ok7, rfl, rfl⟩
 refine ya ?_
 refine AW.seq ?_
 refine rs ?_
 refine AWL.buildSlice1 rfl rfl (B rfl) rfl el_161 rfl (evsC (E rfl rfl) (evsC (E rfl rfl) (evsC (E rfl rfl) evs0))) nB rfl rfl ?_
 refine Y1 (Yv.lenSl rfl so_161 (B rfl) eV len3) ?_
 refine ym (nl ?_)
 refine AW.block ?_
 refine AW.loop4 (fun (k : Nat) (lb : Bd) (lA : Option Addr) (lc : Nat) => [(0, true, zi (1)), (1, true, pv b1), (2, true, pv b2), (3, true, pv b3), (4, true, zi (0)), (5, true, zi (d1)), (6, true, zi (d3)), (7, true, zi (d4)), (8, true, pv b8), (9, true, pv b9), (10, true, zi (d7)), (38, true, .sl 1 (([1, 5, 6] : List Int).map zi)), (39, true, zi (3)), (40, true, zi (k : Int))]) (fun (k : Nat) (lb : Bd) (lA : Option Addr) (lc : Nat) => ([i3 b9 d6, i3 b8 d5, p87 b3 p, z93 b2, i3 b1 1] ++ BdE p lb lA lc)) (fun (k : Nat) (lb : Bd) (lA : Option Addr) (lc : Nat) => stepN (fun k => mIfC (1) (d3) ((([1, 5, 6] : List Int).getD k 0)) (d7)) k bd7 = ((), lb) ∧ BdOk ((1 + 19) + 3 * k) lb ∧ k ≤ 3) (fun (k : Nat) (lb : Bd) (lA : Option Addr) (lc : Nat) => 3 - k) 0 bd7 A7 c7 ?_ ?_ ?_ ?_
 ·exact ⟨rfl, ok7.mono (by omega), by omega⟩
 ·exact (su (su (su (su (su (su (su (su (su (su (su (su (su (su sn))))))))))))))
 ·rfl
 intro k lb lA lc ⟨hst, okL, hle⟩
 refine rs (Y1 (Yv.lss rfl eV eV) (nl ?_))
 refine AW.seq ?_
 refine AW.cond rfl (fun h0t => ?_) (fun h0f => ?_)
 ·try replace h0t := odt h0t
  have hk : k < 3 := by omega
  refine AW.skip ?_
  refine AW.seq ?_
  refine AW.block ?_
  refine rs (Y1 (Yv.indexSl rfl ss_161 (B rfl) eV eV (fun hg => ⟨rfl, (by first | omega | (simp only [len4, len3, List.length_map, List.length_cons, List.length_nil]; omega))⟩)) ?_)
  refine Y1 (Yv.loadRp rfl ag_2 eV (fun hg => lit_at (l := [1, 5, 6]) (by show k < 3; omega))) ?_
  refine ya ?_
  refine AW.region ?_
  refine yl ag_87 2 ?_
  refine ym ?_
  refine ym ?_
  refine ym ?_
  refine cE ce_107 [i3 b9 d6, i3 b8 d5, p87 b3 p, z93 b2, i3 b1 1] (BdE p lb lA lc) rfl rfl rfl (cIfC p ((1 + 19) + 3 * k) lb lA lc okL (by omega) 1 d3 ((([1, 5, 6] : List Int).getD k 0)) d7) ?_
  rintro t48 S48 ⟨d8, bd8, A8, c8, e8, ok8, rfl, rfl⟩
  refine nl ?_
  refine AW.region ?_
  refine Y1 (Yv.addN_i64 rfl eV eV (fun hg => by omega)) ?_
  refine ym (nl ?_)
  refine ⟨k + 1, bd8, A8, c8, ⟨stepN_succ hst (e8), ok8.mono (by omega), by omega⟩, by omega, (su (su (su (su (su (su (su (su (su (su (su (su (su (su sn)))))))))))))), rfl⟩
 try replace h0f := odf h0f
 obtain rfl : k = 3 := by omega
 refine AW.exit ?_
 refine rs (yl ag_87 2 ?_)
 refine cE ce_84 [i3 b9 d6, i3 b8 d5, p87 b3 p, z93 b2, i3 b1 1] (BdE p lb lA lc) rfl rfl rfl (cLabel p ((1 + 19) + 3 * 3) lb lA lc okL (by omega) ) ?_
 rintro t51 S51 ⟨d8, bd8, A8, c8, e8, ok8, rfl, rfl⟩
 refine ya ?_
 refine rs (yl ag_87 2 ?_)
 refine ym ?_
 refine ym ?_
 refine cE ce_107 [i3 b9 d6, i3 b8 d5, p87 b3 p, z93 b2, i3 b1 1] (BdE p bd8 A8 c8) rfl rfl rfl (cIfC p (((1 + 19) + 3 * 3) + 1) bd8 A8 c8 ok8 (by omega) 1 d3 8 d8) ?_
 rintro t55 S55 ⟨d9, bd9, A9, c9, e9, ok9, rfl, rfl⟩
 refine nl ?_
 refine rs (yl ag_87 2 ?_)
 refine yl ag_3 1 ?_
 refine cE ce_52 [i3 b9 d6, i3 b8 d5, p87 b3 p, z93 b2, i3 b1 1] (BdE p bd9 A9 c9) rfl rfl rfl (cRet p (((1 + 19) + 3 * 3) + 4) bd9 A9 c9 ok9 (by omega) d5) ?_
 rintro t58 S58 ⟨d10, bd10, A10, c10, e10, ok10, rfl, rfl⟩
 refine nl ?_
 refine rs (yl ag_87 2 ?_)
 refine ym ?_
 refine cE ce_88 [i3 b9 d6, i3 b8 d5, p87 b3 p, z93 b2, i3 b1 1] (BdE p bd10 A10 c10) rfl rfl rfl (cAt p (((1 + 19) + 3 * 3) + 5) bd10 A10 c10 ok10 (by omega) d8) ?_
 rintro t61 S61 ⟨d11, bd11, A11, c11, e11, ok11, rfl, rfl⟩
 refine nl ?_
 refine rs (yl ag_87 2 ?_)
 refine yl ag_3 0 ?_
 refine cE ce_79 [i3 b9 d6, i3 b8 d5, p87 b3 p, z93 b2, i3 b1 1] (BdE p bd11 A11 c11) rfl rfl rfl (cIncr p (((1 + 19) + 3 * 3) + 6) bd11 A11 c11 ok11 (by omega) d6 8) ?_
 rintro t64 S64 ⟨d12, bd12, A12, c12, e12, ok12, rfl, rfl⟩
 refine nl ?_
 refine rs (yl ag_87 2 ?_)
 refine ym ?_
 refine cE ce_88 [i3 b9 d6, i3 b8 d5, p87 b3 p, z93 b2, i3 b1 1] (BdE p bd12 A12 c12) rfl rfl rfl (cAt p (((1 + 19) + 3 * 3) + 9) bd12 A12 c12 ok12 (by omega) d7) ?_
 rintro t67 S67 ⟨d13, bd13, A13, c13, e13, ok13, rfl, rfl⟩
 refine nl ?_
 refine rs (yl ag_87 2 ?_)
 refine Y1 (Yv.makeFunc rfl evs0 rfl (evsC eV (evsC eV evs0)) rfl) ?_
 refine Y1 (Yv.makeFunc rfl evs0 rfl (evsC eV (evsC eV (evsC eV evs0))) rfl) ?_
 refine cA ce_96 rfl rfl rfl (cWhile p (((1 + 19) + 3 * 3) + 10) 8 0 bd13 A13 c13 ok13 (by omega) 5 115 116 #[.pointer (some ⟨b9, 0, none⟩), .pointer (some ⟨b8, 0, none⟩)] #[.pointer (some ⟨b3, 0, none⟩), .pointer (some ⟨b9, 0, none⟩), .pointer (some ⟨b1, 0, none⟩)] [i3 b9 d6, i3 b8 d5, p87 b3 p, z93 b2, i3 b1 1] (mScan1 d6 d5) (mScan2 d6) ce_115 ce_116 (fun bd9 A9 c9 ok9 => cScan1 p _ bd9 A9 c9 ok9 (by omega) [i3 b9 d6, i3 b8 d5, p87 b3 p, z93 b2, i3 b1 1] 0 b9 d6 rfl 1 b8 d5 rfl) (fun bd9 A9 c9 ok9 => cScan2 p _ bd9 A9 c9 ok9 (by omega) [i3 b9 d6, i3 b8 d5, p87 b3 p, z93 b2, i3 b1 1] 2 b3 rfl 0 b9 d6 rfl 4 b1 rfl)) ?_
 rintro t71 S71 ⟨rfl, bd14, A14, c14, e14, ok14, rfl⟩
 refine nl ?_
 refine rs (yl ag_87 2 ?_)
 refine yl ag_3 1 ?_
 refine cE ce_52 [i3 b9 d6, i3 b8 d5, p87 b3 p, z93 b2, i3 b1 1] (BdE p bd14 A14 c14) rfl rfl rfl (cRet p (((1 + 19) + 3 * 3) + 24) bd14 A14 c14 ok14 (by omega) d5) ?_
 rintro t74 S74 ⟨d15, bd15, A15, c15, e15, ok15, rfl, rfl⟩
 refine nl ?_
 refine rs (yl ag_87 2 ?_)
 refine cE ce_35 [i3 b9 d6, i3 b8 d5, p87 b3 p, z93 b2, i3 b1 1] (BdE p bd15 A15 c15) rfl rfl rfl (cDone p bd15 A15 c15) ?_
 rintro t76 S76 ⟨rfl, rfl⟩
 refine AWL.storeBox (i := 3) rfl rfl rfl ag_93 rfl (E rfl rfl) (E rfl rfl) rfl rfl nB (nl ?_)
 refine AW.ret (retI (.cellA (i := 3) rfl ag_93 rfl rfl rfl .nil) ?_)
 show _ = T.agg (fnCells (fnB (mScanFn (bd0 [103, 99, 46, 115, 99, 97, 110] 1)).2))
 rw [show mScanFn (bd0 [103, 99, 46, 115, 99, 97, 110] 1) = ((), bd15) from (bq e1).trans ((bq e2).trans ((bq e3).trans ((bq e4).trans ((bq e5).trans ((bq e6).trans ((bq e7).trans ((bq hst).trans ((bq e8).trans ((bq e9).trans ((bq e10).trans ((bq e11).trans ((bq e12).trans ((bq e13).trans ((bq e14).trans (e15)))))))))))))))]
 rfl

theorem cScanFn : ACalls Tryz.prog 63 [zi 1] [] (fun t S => t = .agg (fnCells fScanFn) ∧ S = []) := (cScanFn_).less fun t S' h => ⟨[], List.nil_sublist _, h, rfl⟩
def mCollectFn : BM Unit :=
 bnd (mCopy (0)) fun d1 =>
 bnd (mCell (8)) fun d2 =>
 bnd (mWhile (5) (mCollect1 (d2)) (mCollect2 (d2))) fun _ =>
 bnd (mCell (24)) fun d4 =>
 bnd (mCall ((1 + 8)) [d4]) fun d5 =>
 bnd (mSetCell (24) (d5)) fun _ =>
 bnd (stepN (fun k => bnd (mCell (((32 + (16 * (k : Int))) + 8))) fun d7 =>
 bnd (mCall ((1 + 8)) [d7]) fun d8 =>
 mSetCell (((32 + (16 * (k : Int))) + 8)) (d8)) 8) fun _ =>
 bnd (mCell (312)) fun d7 =>
 bnd (mWhile (5) (mCollect3 (d7)) (mCollect4 (d7))) fun _ =>
 bnd (mCell (312)) fun d9 =>
 bnd (mSetCell (320) (d9)) fun _ =>
 bnd (mWhile (5) (mCollect5 (d1)) (mCollect6 (d1))) fun _ =>
 mRetC (1)
def fCollectFn : Fn := fnB (mCollectFn (bd0 [103, 99, 46, 99, 111, 108, 108, 101, 99, 116] 1)).2
set_option maxHeartbeats 16000000 in
theorem cCollectFn_  :
    ACalls Tryz.prog 64 [zi 1] [] (fun t S => t = .agg (fnCells (fCollectFn))) := by
 refine ACalls.intro Tryz.func64 rfl Tryz.ntmps64 nB rfl fun X w0 => ?_
 refine rs ?_
 refine AWL.boxOp rfl rfl (B rfl) rfl (E rfl rfl) rfl (fun b1 => ?_)
 refine AWL.perm (List.perm_append_singleton _ _).symm ?_
 refine AWL.allocOp rfl rfl (B rfl) rfl zc_93 (fun b2 => ?_)
 refine AWL.perm (List.perm_append_singleton _ _).symm (nl ?_)
 refine rs ?_
 refine cE ce_32 [z93 b2, i3 b1 1] [] rfl rfl rfl (cNew [103, 99, 46, 99, 111, 108, 108, 101, 99, 116] 1) ?_
 rintro t8 S8 ⟨p, rfl, rfl⟩
 have ok0 : BdOk 1 (bd0 [103, 99, 46, 99, 111, 108, 108, 101, 99, 116] 1) := ⟨by decide, by decide, by decide, by decide, by decide, by decide, by decide⟩
 refine AWL.allocOp rfl rfl (B rfl) rfl zc_87 (fun b3 => ?_)
 refine AWL.perm (List.perm_append_singleton _ _).symm ?_
 refine AWL.storeBox (i := 0) rfl rfl rfl ag_87 rfl (E rfl rfl) (E rfl rfl) rfl rfl nB (nl ?_)
 refine rs (yl ag_87 0 ?_)
 refine cE ce_117 [p87 b3 p, z93 b2, i3 b1 1] (BdE p (bd0 [103, 99, 46, 99, 111, 108, 108, 101, 99, 116] 1) none 0) rfl rfl rfl (cCopy p 1 (bd0 [103, 99, 46, 99, 111, 108, 108, 101, 99, 116] 1) none 0 ok0 (by omega) 0) ?_
 rintro t10 S10 ⟨d1, bd1, A1, c1, e1, ok1, rfl, rfl⟩
 refine AWL.allocOp rfl rfl (B rfl) rfl zc_3 (fun b4 => ?_)
 refine AWL.perm (List.perm_append_singleton _ _).symm ?_
 refine AWL.storeBox (i := 0) rfl rfl rfl ag_3 rfl (E rfl rfl) (E rfl rfl) rfl rfl nB (nl ?_)
 refine rs (yl ag_87 1 ?_)
 refine cE ce_87 [i3 b4 d1, p87 b3 p, z93 b2, i3 b1 1] (BdE p bd1 A1 c1) rfl rfl rfl (cCell p (1 + 2) bd1 A1 c1 ok1 (by omega) 8) ?_
 rintro t12 S12 ⟨d2, bd2, A2, c2, e2, ok2, rfl, rfl⟩
 refine AWL.allocOp rfl rfl (B rfl) rfl zc_3 (fun b5 => ?_)
 refine AWL.perm (List.perm_append_singleton _ _).symm ?_
 refine AWL.storeBox (i := 0) rfl rfl rfl ag_3 rfl (E rfl rfl) (E rfl rfl) rfl rfl nB (nl ?_)
 refine rs (yl ag_87 2 ?_)
 refine Y1 (Yv.makeFunc rfl evs0 rfl (evsC eV (evsC eV evs0)) rfl) ?_
 refine Y1 (Yv.makeFunc rfl evs0 rfl (evsC eV (evsC eV (evsC eV evs0))) rfl) ?_
 refine cA ce_96 rfl rfl rfl (cWhile p (1 + 6) 8 4 bd2 A2 c2 ok2 (by omega) 5 118 119 #[.pointer (some ⟨b5, 0, none⟩), .pointer (some ⟨b3, 0, none⟩)] #[.pointer (some ⟨b3, 0, none⟩), .pointer (some ⟨b5, 0, none⟩), .pointer (some ⟨b1, 0, none⟩)] [i3 b5 d2, i3 b4 d1, p87 b3 p, z93 b2, i3 b1 1] (mCollect1 d2) (mCollect2 d2) ce_118 ce_119 (fun bd9 A9 c9 ok9 => cCollect1 p _ bd9 A9 c9 ok9 (by omega) [i3 b5 d2, i3 b4 d1, p87 b3 p, z93 b2, i3 b1 1] 0 b5 d2 rfl 2 b3 rfl) (fun bd9 A9 c9 ok9 => cCollect2 p _ bd9 A9 c9 ok9 (by omega) [i3 b5 d2, i3 b4 d1, p87 b3 p, z93 b2, i3 b1 1] 2 b3 rfl 0 b5 d2 rfl 4 b1 rfl)) ?_
 rintro t16 S16 ⟨rfl, bd3, A3, c3, e3, ok3, rfl⟩
 refine nl ?_
 refine AW.rseqH (HeldCs [(b5, 0, Value.int .i64 (d2)), (b4, 0, Value.int .i64 (d1)), (b3, 0, Value.pointer (some ⟨p, 0, none⟩)), (b1, 0, Value.int .i64 (1))]) rfl (tells_cs (tcB 0 rfl rfl pinV (tcB 1 rfl rfl pinV (tcB 2 rfl rfl pinV (tcB 4 rfl rfl pinV (tc0)))))) ?_
 refine T2 (i := 0) rfl (heldB 2 rfl ag_87 (E rfl rfl) rfl (fun _ _ => .v _)) ?_
 refine T2 (i := 1) rfl (heldB 2 rfl ag_87 (E rfl rfl) rfl (fun _ _ => .v _)) ?_
 refine T2 (i := 2) rfl (heldB 3 rfl ag_3 (E rfl rfl) rfl (fun _ _ => .v _)) ?_
 refine T2 (i := 3) rfl (heldAll (freeAddI rfl (E rfl rfl) (E rfl rfl) (by first | decide | omega))) ?_
 refine AWH.one (i := 4) (by kernel_rfl) rfl ?_
 refine yl ag_87 2 ?_
 refine AWL.nil (kpH (tcB 0 rfl rfl pinV (tcB 1 rfl rfl pinV (tcB 2 rfl rfl pinV (tcB 4 rfl rfl pinV (tc0))))) ?_)
 refine AWH.one (i := 5) (by kernel_rfl) rfl ?_
 refine cE ce_87 [i3 b5 d2, i3 b4 d1, p87 b3 p, z93 b2, i3 b1 1] (BdE p bd3 A3 c3) rfl rfl rfl (cCell p (1 + 24) bd3 A3 c3 ok3 (by omega) 24) ?_
 rintro t22 S22 ⟨d4, bd4, A4, c4, e4, ok4, rfl, rfl⟩
 refine AWL.nil (kpH (tcB 0 rfl rfl pinV (tcB 1 rfl rfl pinV (tcB 2 rfl rfl pinV (tcB 4 rfl rfl pinV (tc0))))) ?_)
 refine AWH.one (i := 6) (by kernel_rfl) rfl ?_
 refine AWL.buildSlice1 rfl rfl (B rfl) rfl el_35 rfl (evsC (E rfl rfl) evs0) nB rfl rfl ?_
 refine AWL.nil (kpH (tcB 0 rfl rfl pinV (tcB 1 rfl rfl pinV (tcB 2 rfl rfl pinV (tcB 4 rfl rfl pinV (tc0))))) ?_)
 refine AWH.one (i := 7) (by kernel_rfl) rfl ?_
 refine cE ce_33 [i3 b5 d2, i3 b4 d1, p87 b3 p, z93 b2, i3 b1 1] (BdE p bd4 A4 c4) rfl rfl rfl (cCall p (1 + 28) bd4 A4 c4 ok4 (by omega) ((1 + 8)) [d4]) ?_
 rintro t24 S24 ⟨d5, bd5, A5, c5, e5, ok5, rfl, rfl⟩
 refine AWL.nil (kpH (tcB 0 rfl rfl pinV (tcB 1 rfl rfl pinV (tcB 2 rfl rfl pinV (tcB 4 rfl rfl pinV (tc0))))) ?_)
 refine AWH.one (i := 8) (by kernel_rfl) rfl ?_
 refine cE ce_76 [i3 b5 d2, i3 b4 d1, p87 b3 p, z93 b2, i3 b1 1] (BdE p bd5 A5 c5) rfl rfl rfl (cSetCell p (1 + 30) bd5 A5 c5 ok5 (by omega) 24 d5) ?_
 rintro t25 S25 ⟨d6, bd6, A6, c6, e6, ok6, rfl, rfl⟩
 refine AWL.nil (kpH (tcB 0 rfl rfl pinV (tcB 1 rfl rfl pinV (tcB 2 rfl rfl pinV (tcB 4 rfl rfl pinV (tc0))))) ?_)
 refine AWH.done (by kernel_rfl) ?_
 refine AW.seq ?_
 refine ra ?_
 refine AW.block ?_
 refine AW.loop4 (fun (k : Nat) (lb : Bd) (lA : Option Addr) (lc : Nat) => [(0, true, zi (1)), (1, true, pv b1), (2, true, pv b2), (3, true, pv b3), (4, true, pv b4), (5, true, pv b5), (6, true, zi (k : Int))]) (fun (k : Nat) (lb : Bd) (lA : Option Addr) (lc : Nat) => ([i3 b5 d2, i3 b4 d1, p87 b3 p, z93 b2, i3 b1 1] ++ BdE p lb lA lc)) (fun (k : Nat) (lb : Bd) (lA : Option Addr) (lc : Nat) => stepN (fun k => bnd (mCell (((32 + (16 * (k : Int))) + 8))) fun d7 =>
  bnd (mCall ((1 + 8)) [d7]) fun d8 =>
  mSetCell (((32 + (16 * (k : Int))) + 8)) (d8)) k bd6 = ((), lb) ∧ BdOk ((1 + 33) + 9 * k) lb ∧ k ≤ 8) (fun (k : Nat) (lb : Bd) (lA : Option Addr) (lc : Nat) => 8 - k) 0 bd6 A6 c6 ?_ ?_ ?_ ?_
 ·exact ⟨rfl, ok6.mono (by omega), by omega⟩
 ·exact (su (su (su (su (su (su (su sn)))))))
 ·rfl
 intro k lb lA lc ⟨hst, okL, hle⟩
 refine AW.seq ?_
 refine rs (ym ?_)
 refine Y1 (Yv.lss rfl eV eV) (nl ?_)
 refine AW.cond rfl (fun h0t => ?_) (fun h0f => ?_)
 ·try replace h0t := odt h0t
  have hk : k < 8 := by omega
  refine AW.skip ?_
  refine AW.seq ?_
  refine AW.block ?_
  refine AW.regionH (HeldCs [(b5, 0, Value.int .i64 (d2)), (b4, 0, Value.int .i64 (d1)), (b3, 0, Value.pointer (some ⟨p, 0, none⟩)), (b1, 0, Value.int .i64 (1))]) rfl (tells_cs (tcB 0 rfl rfl pinV (tcB 1 rfl rfl pinV (tcB 2 rfl rfl pinV (tcB 4 rfl rfl pinV (tc0)))))) ?_
  refine T2 (i := 0) rfl (heldB 2 rfl ag_87 (E rfl rfl) rfl (fun _ _ => .v _)) ?_
  refine T2 (i := 1) rfl (heldAll (freeMove rfl (E rfl rfl))) ?_
  refine T2 (i := 2) rfl (heldAll (freeMulI rfl (E rfl rfl) (E rfl rfl) (by first | decide | omega))) ?_
  refine T2 (i := 3) rfl (heldAll (freeAddI rfl (E rfl rfl) (E rfl rfl) (by first | decide | omega))) ?_
  refine T2 (i := 4) rfl (heldAll (freeAddI rfl (E rfl rfl) (E rfl rfl) (by first | decide | omega))) ?_
  refine T2 (i := 5) rfl (heldB 2 rfl ag_87 (E rfl rfl) rfl (fun _ _ => .v _)) ?_
  refine T2 (i := 6) rfl (heldB 3 rfl ag_3 (E rfl rfl) rfl (fun _ _ => .v _)) ?_
  refine T2 (i := 7) rfl (heldAll (freeAddI rfl (E rfl rfl) (E rfl rfl) (by first | decide | omega))) ?_
  refine T2 (i := 8) rfl (heldB 2 rfl ag_87 (E rfl rfl) rfl (fun _ _ => .v _)) ?_
  refine AWH.one (i := 9) (by kernel_rfl) rfl ?_
  refine ym ?_
  refine AWL.nil (kpH (tcB 0 rfl rfl pinV (tcB 1 rfl rfl pinV (tcB 2 rfl rfl pinV (tcB 4 rfl rfl pinV (tc0))))) ?_)
  refine AWH.one (i := 10) (by kernel_rfl) rfl ?_
  refine Y1 (Yv.mulN_i64 rfl eV eV (fun hg => by omega)) ?_
  refine AWL.nil (kpH (tcB 0 rfl rfl pinV (tcB 1 rfl rfl pinV (tcB 2 rfl rfl pinV (tcB 4 rfl rfl pinV (tc0))))) ?_)
  refine AWH.one (i := 11) (by kernel_rfl) rfl ?_
  refine Y1 (Yv.addN_i64 rfl eV eV (fun hg => by omega)) ?_
  refine AWL.nil (kpH (tcB 0 rfl rfl pinV (tcB 1 rfl rfl pinV (tcB 2 rfl rfl pinV (tcB 4 rfl rfl pinV (tc0))))) ?_)
  refine AWH.one (i := 12) (by kernel_rfl) rfl ?_
  refine Y1 (Yv.addN_i64 rfl eV eV (fun hg => by omega)) ?_
  refine AWL.nil (kpH (tcB 0 rfl rfl pinV (tcB 1 rfl rfl pinV (tcB 2 rfl rfl pinV (tcB 4 rfl rfl pinV (tc0))))) ?_)
  refine AWH.one (i := 13) (by kernel_rfl) rfl ?_
  refine cE ce_87 [i3 b5 d2, i3 b4 d1, p87 b3 p, z93 b2, i3 b1 1] (BdE p lb lA lc) rfl rfl rfl (cCell p ((1 + 33) + 9 * k) lb lA lc okL (by omega) (((32 + (16 * (k : Int))) + 8))) ?_
  rintro t43 S43 ⟨d7, bd7, A7, c7, e7, ok7, rfl, rfl⟩
  refine AWL.nil (kpH (tcB 0 rfl rfl pinV (tcB 1 rfl rfl pinV (tcB 2 rfl rfl pinV (tcB 4 rfl rfl pinV (tc0))))) ?_)
  refine AWH.one (i := 14) (by kernel_rfl) rfl ?_
  refine AWL.buildSlice1 rfl rfl (B rfl) rfl el_35 rfl (evsC (E rfl rfl) evs0) nB rfl rfl ?_
  refine AWL.nil (kpH (tcB 0 rfl rfl pinV (tcB 1 rfl rfl pinV (tcB 2 rfl rfl pinV (tcB 4 rfl rfl pinV (tc0))))) ?_)
  refine AWH.one (i := 15) (by kernel_rfl) rfl ?_
  refine cE ce_33 [i3 b5 d2, i3 b4 d1, p87 b3 p, z93 b2, i3 b1 1] (BdE p bd7 A7 c7) rfl rfl rfl (cCall p (((1 + 33) + 9 * k) + 4) bd7 A7 c7 ok7 (by omega) ((1 + 8)) [d7]) ?_
  rintro t45 S45 ⟨d8, bd8, A8, c8, e8, ok8, rfl, rfl⟩
  refine AWL.nil (kpH (tcB 0 rfl rfl pinV (tcB 1 rfl rfl pinV (tcB 2 rfl rfl pinV (tcB 4 rfl rfl pinV (tc0))))) ?_)
  refine AWH.one (i := 16) (by kernel_rfl) rfl ?_
  refine cE ce_76 [i3 b5 d2, i3 b4 d1, p87 b3 p, z93 b2, i3 b1 1] (BdE p bd8 A8 c8) rfl rfl rfl (cSetCell p (((1 + 33) + 9 * k) + 6) bd8 A8 c8 ok8 (by omega) (((32 + (16 * (k : Int))) + 8)) d8) ?_
  rintro t46 S46 ⟨d9, bd9, A9, c9, e9, ok9, rfl, rfl⟩
  refine AWL.nil (kpH (tcB 0 rfl rfl pinV (tcB 1 rfl rfl pinV (tcB 2 rfl rfl pinV (tcB 4 rfl rfl pinV (tc0))))) ?_)
  refine AWH.done (by kernel_rfl) ?_
  refine AW.region ?_
  refine ym ?_
  refine Y1 (Yv.addN_i64 rfl eV eV (fun hg => by omega)) ?_
  refine ya ?_
  refine ⟨k + 1, bd9, A9, c9, ⟨stepN_succ hst ((bq e7).trans ((bq e8).trans (e9))), ok9.mono (by omega), by omega⟩, by omega, (su (su (su (su (su (su (su sn))))))), rfl⟩
 try replace h0f := odf h0f
 obtain rfl : k = 8 := by omega
 refine AW.exit ?_
 refine rs (yl ag_87 2 ?_)
 refine cE ce_87 [i3 b5 d2, i3 b4 d1, p87 b3 p, z93 b2, i3 b1 1] (BdE p lb lA lc) rfl rfl rfl (cCell p ((1 + 33) + 9 * 8) lb lA lc okL (by omega) 312) ?_
 rintro t48 S48 ⟨d7, bd7, A7, c7, e7, ok7, rfl, rfl⟩
 refine AWL.allocOp rfl rfl (B rfl) rfl zc_3 (fun b7 => ?_)
 refine AWL.perm (List.perm_append_singleton _ _).symm ?_
 refine AWL.storeBox (i := 0) rfl rfl rfl ag_3 rfl (E rfl rfl) (E rfl rfl) rfl rfl nB (nl ?_)
 refine rs (yl ag_87 3 ?_)
 refine Y1 (Yv.makeFunc rfl evs0 rfl (evsC eV (evsC eV evs0)) rfl) ?_
 refine Y1 (Yv.makeFunc rfl evs0 rfl (evsC eV (evsC eV (evsC eV evs0))) rfl) ?_
 refine cA ce_96 rfl rfl rfl (cWhile p (((1 + 33) + 9 * 8) + 4) 14 4 bd7 A7 c7 ok7 (by omega) 5 120 121 #[.pointer (some ⟨b7, 0, none⟩), .pointer (some ⟨b3, 0, none⟩)] #[.pointer (some ⟨b3, 0, none⟩), .pointer (some ⟨b7, 0, none⟩), .pointer (some ⟨b1, 0, none⟩)] [i3 b7 d7, i3 b5 d2, i3 b4 d1, p87 b3 p, z93 b2, i3 b1 1] (mCollect3 d7) (mCollect4 d7) ce_120 ce_121 (fun bd9 A9 c9 ok9 => cCollect3 p _ bd9 A9 c9 ok9 (by omega) [i3 b7 d7, i3 b5 d2, i3 b4 d1, p87 b3 p, z93 b2, i3 b1 1] 0 b7 d7 rfl 3 b3 rfl) (fun bd9 A9 c9 ok9 => cCollect4 p _ bd9 A9 c9 ok9 (by omega) [i3 b7 d7, i3 b5 d2, i3 b4 d1, p87 b3 p, z93 b2, i3 b1 1] 3 b3 rfl 0 b7 d7 rfl 5 b1 rfl)) ?_
 rintro t52 S52 ⟨rfl, bd8, A8, c8, e8, ok8, rfl⟩
 refine nl ?_
 refine AW.rseqH (HeldCs [(b7, 0, Value.int .i64 (d7)), (b5, 0, Value.int .i64 (d2)), (b4, 0, Value.int .i64 (d1)), (b3, 0, Value.pointer (some ⟨p, 0, none⟩)), (b1, 0, Value.int .i64 (1))]) rfl (tells_cs (tcB 0 rfl rfl pinV (tcB 1 rfl rfl pinV (tcB 2 rfl rfl pinV (tcB 3 rfl rfl pinV (tcB 5 rfl rfl pinV (tc0))))))) ?_
 refine T2 (i := 0) rfl (heldB 3 rfl ag_87 (E rfl rfl) rfl (fun _ _ => .v _)) ?_
 refine AWH.one (i := 1) (by kernel_rfl) rfl ?_
 refine yl ag_87 3 ?_
 refine AWL.nil (kpH (tcB 0 rfl rfl pinV (tcB 1 rfl rfl pinV (tcB 2 rfl rfl pinV (tcB 3 rfl rfl pinV (tcB 5 rfl rfl pinV (tc0)))))) ?_)
 refine AWH.one (i := 2) (by kernel_rfl) rfl ?_
 refine cE ce_87 [i3 b7 d7, i3 b5 d2, i3 b4 d1, p87 b3 p, z93 b2, i3 b1 1] (BdE p bd8 A8 c8) rfl rfl rfl (cCell p (((1 + 33) + 9 * 8) + 28) bd8 A8 c8 ok8 (by omega) 312) ?_
 rintro t55 S55 ⟨d9, bd9, A9, c9, e9, ok9, rfl, rfl⟩
 refine AWL.nil (kpH (tcB 0 rfl rfl pinV (tcB 1 rfl rfl pinV (tcB 2 rfl rfl pinV (tcB 3 rfl rfl pinV (tcB 5 rfl rfl pinV (tc0)))))) ?_)
 refine AWH.one (i := 3) (by kernel_rfl) rfl ?_
 refine cE ce_76 [i3 b7 d7, i3 b5 d2, i3 b4 d1, p87 b3 p, z93 b2, i3 b1 1] (BdE p bd9 A9 c9) rfl rfl rfl (cSetCell p (((1 + 33) + 9 * 8) + 32) bd9 A9 c9 ok9 (by omega) 320 d9) ?_
 rintro t56 S56 ⟨d10, bd10, A10, c10, e10, ok10, rfl, rfl⟩
 refine AWL.nil (kpH (tcB 0 rfl rfl pinV (tcB 1 rfl rfl pinV (tcB 2 rfl rfl pinV (tcB 3 rfl rfl pinV (tcB 5 rfl rfl pinV (tc0)))))) ?_)
 refine AWH.done (by kernel_rfl) ?_
 refine rs (yl ag_87 3 ?_)
 refine Y1 (Yv.makeFunc rfl evs0 rfl (evsC eV (evsC eV evs0)) rfl) ?_
 refine Y1 (Yv.makeFunc rfl evs0 rfl (evsC eV (evsC eV (evsC eV evs0))) rfl) ?_
 refine cA ce_96 rfl rfl rfl (cWhile p (((1 + 33) + 9 * 8) + 35) 3 4 bd10 A10 c10 ok10 (by omega) 5 122 123 #[.pointer (some ⟨b4, 0, none⟩), .pointer (some ⟨b3, 0, none⟩)] #[.pointer (some ⟨b3, 0, none⟩), .pointer (some ⟨b4, 0, none⟩), .pointer (some ⟨b1, 0, none⟩)] [i3 b7 d7, i3 b5 d2, i3 b4 d1, p87 b3 p, z93 b2, i3 b1 1] (mCollect5 d1) (mCollect6 d1) ce_122 ce_123 (fun bd9 A9 c9 ok9 => cCollect5 p _ bd9 A9 c9 ok9 (by omega) [i3 b7 d7, i3 b5 d2, i3 b4 d1, p87 b3 p, z93 b2, i3 b1 1] 2 b4 d1 rfl 3 b3 rfl) (fun bd9 A9 c9 ok9 => cCollect6 p _ bd9 A9 c9 ok9 (by omega) [i3 b7 d7, i3 b5 d2, i3 b4 d1, p87 b3 p, z93 b2, i3 b1 1] 3 b3 rfl 2 b4 d1 rfl 5 b1 rfl)) ?_
 rintro t60 S60 ⟨rfl, bd11, A11, c11, e11, ok11, rfl⟩
 refine nl ?_
 refine rs (yl ag_87 3 ?_)
 refine cE ce_34 [i3 b7 d7, i3 b5 d2, i3 b4 d1, p87 b3 p, z93 b2, i3 b1 1] (BdE p bd11 A11 c11) rfl rfl rfl (cRetC p (((1 + 33) + 9 * 8) + 48) bd11 A11 c11 ok11 (by omega) 1) ?_
 rintro t62 S62 ⟨d12, bd12, A12, c12, e12, ok12, rfl, rfl⟩
 refine nl ?_
 refine rs (yl ag_87 3 ?_)
 refine cE ce_35 [i3 b7 d7, i3 b5 d2, i3 b4 d1, p87 b3 p, z93 b2, i3 b1 1] (BdE p bd12 A12 c12) rfl rfl rfl (cDone p bd12 A12 c12) ?_
 rintro t64 S64 ⟨rfl, rfl⟩
 refine AWL.storeBox (i := 4) rfl rfl rfl ag_93 rfl (E rfl rfl) (E rfl rfl) rfl rfl nB (nl ?_)
 refine AW.ret (retI (.cellA (i := 4) rfl ag_93 rfl rfl rfl .nil) ?_)
 show _ = T.agg (fnCells (fnB (mCollectFn (bd0 [103, 99, 46, 99, 111, 108, 108, 101, 99, 116] 1)).2))
 rw [show mCollectFn (bd0 [103, 99, 46, 99, 111, 108, 108, 101, 99, 116] 1) = ((), bd12) from (bq e1).trans ((bq e2).trans ((bq e3).trans ((bq e4).trans ((bq e5).trans ((bq e6).trans ((bq hst).trans ((bq e7).trans ((bq e8).trans ((bq e9).trans ((bq e10).trans ((bq e11).trans (e12))))))))))))]
 rfl

theorem cCollectFn : ACalls Tryz.prog 64 [zi 1] [] (fun t S => t = .agg (fnCells fCollectFn) ∧ S = []) := (cCollectFn_).less fun t S' h => ⟨[], List.nil_sublist _, h, rfl⟩
end Go.Proofs.YtpgbpdnmjeoeoaaGreat.B

namespace Go.Proofs.YtpgbpdnmjeoeoaaGreat.B
open Go Go.RowKit

def mFullFn : BM Unit :=
 bnd (stepN (fun k => bnd (mC ((xr k 8))) fun d1 =>
 mSetCell ((384 + (8 * (k : Int)))) (d1)) 2) fun _ =>
 bnd (mC (2)) fun d1 =>
 bnd (mData (384)) fun d2 =>
 bnd (mC (13)) fun d3 =>
 bnd (mSys (1) [d1, d2, d3]) fun d4 =>
 bnd (mC (137)) fun d5 =>
 bnd (mSys (60) [d5]) fun d6 =>
 mRetC (1)
def fFullFn : Fn := fnB (mFullFn (bd0 [103, 99, 46, 102, 117, 108, 108] 0)).2
set_option maxHeartbeats 16000000 in
theorem cFullFn_  :
    ACalls Tryz.prog 59 [] [] (fun t S => t = .agg (fnCells (fFullFn))) := by
 refine ACalls.intro Tryz.func59 rfl Tryz.ntmps59 nB rfl fun X w0 => ?_
 refine rs ?_
 refine AWL.allocOp rfl rfl (B rfl) rfl zc_93 (fun b0 => ?_)
 refine AWL.perm (List.perm_append_singleton _ _).symm (nl ?_)
 refine rs ?_
 refine cE ce_32 [z93 b0] [] rfl rfl rfl (cNew [103, 99, 46, 102, 117, 108, 108] 0) ?_
 rintro t6 S6 ⟨p, rfl, rfl⟩
 have ok0 : BdOk 1 (bd0 [103, 99, 46, 102, 117, 108, 108] 0) := ⟨by decide, by decide, by decide, by decide, by decide, by decide, by decide⟩
 refine ya ?_
 refine ra ?_
 refine AW.seq ?_
 refine ra ?_
 refine AW.block ?_
 refine AW.loop4 (fun (k : Nat) (lb : Bd) (lA : Option Addr) (lc : Nat) => [(0, true, pv b0), (1, true, pv p), (2, true, sv [111, 117, 116, 32, 111, 102, 32, 109, 101, 109, 111, 114, 121, 0, 0, 0]), (3, true, zi (k : Int))]) (fun (k : Nat) (lb : Bd) (lA : Option Addr) (lc : Nat) => ([z93 b0] ++ BdE p lb lA lc)) (fun (k : Nat) (lb : Bd) (lA : Option Addr) (lc : Nat) => stepN (fun k => bnd (mC ((xr k 8))) fun d1 =>
  mSetCell ((384 + (8 * (k : Int)))) (d1)) k (bd0 [103, 99, 46, 102, 117, 108, 108] 0) = ((), lb) ∧ BdOk (1 + 5 * k) lb ∧ k ≤ 2) (fun (k : Nat) (lb : Bd) (lA : Option Addr) (lc : Nat) => 2 - k) 0 ((bd0 [103, 99, 46, 102, 117, 108, 108] 0)) none 0 ?_ ?_ ?_ ?_
 ·exact ⟨rfl, ok0.mono (by omega), by omega⟩
 ·exact (su (su (su (su sn))))
 ·rfl
 intro k lb lA lc ⟨hst, okL, hle⟩
 refine AW.seq ?_
 refine rs (ym ?_)
 refine Y1 (Yv.lss rfl eV eV) (nl ?_)
 refine AW.cond rfl (fun h0t => ?_) (fun h0f => ?_)
 ·try replace h0t := odt h0t
  have hk : k < 2 := by omega
  refine AW.skip ?_
  refine AW.seq ?_
  refine AW.block ?_
  refine ra ?_
  refine AW.seq ?_
  refine ra ?_
  refine AW.block ?_
  refine AW.loop (fun (r : Nat) => [(0, true, pv b0), (1, true, pv p), (2, true, sv msgB), (3, true, zi (k : Int)), (4, true, zi (xr k r)), (5, true, zi (7 - (r : Int)))]) (fun (r : Nat) => ([z93 b0] ++ BdE p lb lA lc)) (fun (r : Nat) => r ≤ 8) (fun (r : Nat) => 8 - r) 0 ?_ ?_ ?_ ?_
  ·exact Nat.zero_le _
  ·exact (su (su (su (su (su (su sn))))))
  ·rfl
  intro r hinv
  refine AW.seq ?_
  refine rs (ym ?_)
  refine Y1 (Yv.geq rfl eV eV) (nl ?_)
  refine AW.cond rfl (fun h1t => ?_) (fun h1f => ?_)
  ·try replace h1t := odt h1t
   have hr : r < 8 := by omega
   refine AW.skip ?_
   refine AW.seq ?_
   refine AW.block ?_
   refine AW.region ?_
   refine ym ?_
   refine Y1 (Yv.shlC 256 (by decide) (by decide) rfl (E rfl rfl) (E rfl rfl)) ?_
   refine ym ?_
   refine ym ?_
   refine Y1 (Yv.mulN_i64 rfl eV eV (fun hg => by omega)) ?_
   refine ym ?_
   refine Y1 (Yv.addN_i64 rfl eV eV (fun hg => by omega)) ?_
   refine Y1 (Yv.indexL rfl st_9 eV eV (j := 8 * k + (7 - r)) (fun hg => ⟨by omega, by show _ < 16; omega⟩)) ?_
   refine Y1 (Yv.convU8 rfl Tryz.underlying5 kd_2 rfl eV) ?_
   refine Y1 (Yv.bits rfl rfl eV eV) ?_
   refine ya ?_
   refine AW.region ?_
   refine ym ?_
   refine Y1 (Yv.subN_i64 rfl eV eV (fun hg => by omega)) ?_
   refine ya ?_
   exact ⟨r + 1, by omega, by omega, (su (su (su (su (su (Sub.cons rfl (congrArg zi (by omega)) Sub.nil)))))), rfl⟩
  try replace h1f := odf h1f
  obtain rfl : r = 8 := by omega
  refine AW.exit ?_
  refine AW.region ?_
  refine ym ?_
  refine ym ?_
  refine Y1 (Yv.mulN_i64 rfl eV eV (fun hg => by omega)) ?_
  refine Y1 (Yv.addN_i64 rfl eV eV (fun hg => by omega)) ?_
  refine ym ?_
  refine ym ?_
  refine cE ce_53 [z93 b0] (BdE p lb lA lc) rfl rfl rfl (cC p (1 + 5 * k) lb lA lc okL (by omega) ((xr k 8))) ?_
  rintro t31 S31 ⟨d1, bd1, A1, c1, e1, ok1, rfl, rfl⟩
  refine cE ce_76 [z93 b0] (BdE p bd1 A1 c1) rfl rfl rfl (cSetCell p ((1 + 5 * k) + 2) bd1 A1 c1 ok1 (by omega) ((384 + (8 * (k : Int)))) d1) ?_
  rintro t32 S32 ⟨d2, bd2, A2, c2, e2, ok2, rfl, rfl⟩
  refine nl ?_
  refine AW.region ?_
  refine ym ?_
  refine Y1 (Yv.addN_i64 rfl eV eV (fun hg => by omega)) ?_
  refine ya ?_
  refine ⟨k + 1, bd2, A2, c2, ⟨stepN_succ hst ((bq e1).trans (e2)), ok2.mono (by omega), by omega⟩, by omega, (su (su (su (su sn)))), rfl⟩
 try replace h0f := odf h0f
 obtain rfl : k = 2 := by omega
 refine AW.exit ?_
 refine rs (ym ?_)
 refine ym ?_
 refine cE ce_53 [z93 b0] (BdE p lb lA lc) rfl rfl rfl (cC p (1 + 5 * 2) lb lA lc okL (by omega) 2) ?_
 rintro t35 S35 ⟨d1, bd1, A1, c1, e1, ok1, rfl, rfl⟩
 refine ym ?_
 refine cE ce_106 [z93 b0] (BdE p bd1 A1 c1) rfl rfl rfl (cData p ((1 + 5 * 2) + 2) bd1 A1 c1 ok1 (by omega) 384) ?_
 rintro t37 S37 ⟨d2, bd2, A2, c2, e2, ok2, rfl, rfl⟩
 refine ym ?_
 refine cE ce_53 [z93 b0] (BdE p bd2 A2 c2) rfl rfl rfl (cC p ((1 + 5 * 2) + 4) bd2 A2 c2 ok2 (by omega) 13) ?_
 rintro t39 S39 ⟨d3, bd3, A3, c3, e3, ok3, rfl, rfl⟩
 refine AWL.buildSlice1 rfl rfl (B rfl) rfl el_35 rfl (evsC (E rfl rfl) (evsC (E rfl rfl) (evsC (E rfl rfl) evs0))) nB rfl rfl ?_
 refine cE ce_105 [z93 b0] (BdE p bd3 A3 c3) rfl rfl rfl (cSys p ((1 + 5 * 2) + 6) bd3 A3 c3 ok3 (by omega) 1 [d1, d2, d3]) ?_
 rintro t41 S41 ⟨d4, bd4, A4, c4, e4, ok4, rfl, rfl⟩
 refine nl ?_
 refine rs (ym ?_)
 refine ym ?_
 refine cE ce_53 [z93 b0] (BdE p bd4 A4 c4) rfl rfl rfl (cC p ((1 + 5 * 2) + 8) bd4 A4 c4 ok4 (by omega) 137) ?_
 rintro t44 S44 ⟨d5, bd5, A5, c5, e5, ok5, rfl, rfl⟩
 refine AWL.buildSlice1 rfl rfl (B rfl) rfl el_35 rfl (evsC (E rfl rfl) evs0) nB rfl rfl ?_
 refine cE ce_105 [z93 b0] (BdE p bd5 A5 c5) rfl rfl rfl (cSys p ((1 + 5 * 2) + 10) bd5 A5 c5 ok5 (by omega) 60 [d5]) ?_
 rintro t46 S46 ⟨d6, bd6, A6, c6, e6, ok6, rfl, rfl⟩
 refine nl ?_
 refine rs (ym ?_)
 refine cE ce_34 [z93 b0] (BdE p bd6 A6 c6) rfl rfl rfl (cRetC p ((1 + 5 * 2) + 12) bd6 A6 c6 ok6 (by omega) 1) ?_
 rintro t48 S48 ⟨d7, bd7, A7, c7, e7, ok7, rfl, rfl⟩
 refine nl ?_
 refine rs (ym ?_)
 refine cE ce_35 [z93 b0] (BdE p bd7 A7 c7) rfl rfl rfl (cDone p bd7 A7 c7) ?_
 rintro t50 S50 ⟨rfl, rfl⟩
 refine AWL.storeBox (i := 0) rfl rfl rfl ag_93 rfl (E rfl rfl) (E rfl rfl) rfl rfl nB (nl ?_)
 refine AW.ret (retI (.cellA (i := 0) rfl ag_93 rfl rfl rfl .nil) ?_)
 show _ = T.agg (fnCells (fnB (mFullFn (bd0 [103, 99, 46, 102, 117, 108, 108] 0)).2))
 rw [show mFullFn (bd0 [103, 99, 46, 102, 117, 108, 108] 0) = ((), bd7) from (bq hst).trans ((bq e1).trans ((bq e2).trans ((bq e3).trans ((bq e4).trans ((bq e5).trans ((bq e6).trans (e7)))))))]
 rfl

theorem cFullFn : ACalls Tryz.prog 59 [] [] (fun t S => t = .agg (fnCells fFullFn) ∧ S = []) := (cFullFn_).less fun t S' h => ⟨[], List.nil_sublist _, h, rfl⟩
def gcFns : List Fn := [fStartFn, fAllocFn, fMinorFn, fMajorFn, fMarkFn, fFullFn, fSizeFn, fCopiedFn, fForwardFn, fScanFn, fCollectFn]
set_option maxHeartbeats 4000000 in
theorem cFunctions  :
    ACalls Tryz.prog 36 [zi 1] [] (fun t S => t = .sl 5 (gcFns.flatMap fnCells) ∧ S = []) := by
 refine ACalls.intro Tryz.func36 rfl Tryz.ntmps36 nB rfl fun X w0 => ?_
 refine ra ?_
 refine rs (ym ?_)
 refine cE ce_54 [] [] rfl rfl rfl cStartFn ?_
 rintro t4 S4 ⟨rfl, rfl⟩
 refine ym ?_
 refine cE ce_55 [] [] rfl rfl rfl cAllocFn ?_
 rintro t6 S6 ⟨rfl, rfl⟩
 refine ym ?_
 refine cE ce_56 [] [] rfl rfl rfl cMinorFn ?_
 rintro t8 S8 ⟨rfl, rfl⟩
 refine ym ?_
 refine cE ce_57 [] [] rfl rfl rfl cMajorFn ?_
 rintro t10 S10 ⟨rfl, rfl⟩
 refine cE ce_58 [] [] rfl rfl rfl cMarkFn ?_
 rintro t11 S11 ⟨rfl, rfl⟩
 refine cE ce_59 [] [] rfl rfl rfl cFullFn ?_
 rintro t12 S12 ⟨rfl, rfl⟩
 refine cE ce_60 [] [] rfl rfl rfl cSizeFn ?_
 rintro t13 S13 ⟨rfl, rfl⟩
 refine ym ?_
 refine cE ce_61 [] [] rfl rfl rfl cCopiedFn ?_
 rintro t15 S15 ⟨rfl, rfl⟩
 refine ym ?_
 refine cE ce_62 [] [] rfl rfl rfl cForwardFn ?_
 rintro t17 S17 ⟨rfl, rfl⟩
 refine ym ?_
 refine cE ce_63 [] [] rfl rfl rfl cScanFn ?_
 rintro t19 S19 ⟨rfl, rfl⟩
 refine ym ?_
 refine cE ce_64 [] [] rfl rfl rfl cCollectFn ?_
 rintro t21 S21 ⟨rfl, rfl⟩
 refine AWL.buildSliceE rfl rfl (B rfl) rfl el_53 (B rfl) rfl (evsC (E rfl rfl) (evsC (E rfl rfl) (evsC (E rfl rfl) (evsC (E rfl rfl) (evsC (E rfl rfl) (evsC (E rfl rfl) (evsC (E rfl rfl) (evsC (E rfl rfl) (evsC (E rfl rfl) (evsC (E rfl rfl) (evsC (E rfl rfl) evs0))))))))))) nB rfl rfl ?_
 refine ya ?_
 refine AW.ret (retI (.tmp rfl .nil) ?_)
 exact ⟨rfl, rfl⟩

end Go.Proofs.YtpgbpdnmjeoeoaaGreat.B

namespace Go.Proofs.YtpgbpdnmjeoeoaaGreat.B
open Go Go.RowKit

def mMain : BM Unit := bnd (mCall 1 []) fun _ => mRetC 0
def fMain : Fn := fnB (mMain (bd0 [109, 97, 105, 110] 0)).2
def gcP : Prog := ⟨fMain :: gcFns, List.replicate 400 0, 0⟩
theorem zeros_data : (List.replicate 400 (([.int .u8 0] : List Value).map T.v)).flatten = (List.replicate 400 (0 : UInt8)).map u8 := by
 rw [List.map_replicate, List.map_cons, List.map_nil]
 exact flat_one _ _
set_option maxHeartbeats 16000000 in
theorem cProgram_  :
    ACalls Tryz.prog 18 [] [] (fun t S => t = .agg (progCells gcP)) := by
 refine ACalls.intro Tryz.func18 rfl Tryz.ntmps18 nB rfl fun X w0 => ?_
 refine rs ?_
 refine AWL.allocOp rfl rfl (B rfl) rfl zc_56 (fun b0 => ?_)
 refine AWL.perm (List.perm_append_singleton _ _).symm (nl ?_)
 refine rs ?_
 refine cE ce_32 [Ent.box b0 56 (([.slice none 0 0, .slice none 0 0, .int .i64 0] : List Value).map T.v)] [] rfl rfl rfl (cNew [109, 97, 105, 110] 0) ?_
 rintro t2 S2 ⟨p, rfl, rfl⟩
 have ok0 : BdOk 1 (bd0 [109, 97, 105, 110] 0) := ⟨by decide, by decide, by decide, by decide, by decide, by decide, by decide⟩
 refine ya ?_
 refine rs (ym ?_)
 refine cE ce_33 [Ent.box b0 56 (([.slice none 0 0, .slice none 0 0, .int .i64 0] : List Value).map T.v)] (BdE p (bd0 [109, 97, 105, 110] 0) none 0) rfl rfl rfl ((cCall p 1 (bd0 [109, 97, 105, 110] 0) none 0 ok0 (by omega) 1 []).le (.cons .refl (.cons .refl (.cons nilSl (.refl))))) ?_
 rintro t4 S4 ⟨d1, bd1, A1, c1, e1, ok1, rfl, rfl⟩
 refine nl ?_
 refine rs (ym ?_)
 refine cE ce_34 [Ent.box b0 56 (([.slice none 0 0, .slice none 0 0, .int .i64 0] : List Value).map T.v)] (BdE p bd1 A1 c1) rfl rfl rfl (cRetC p (1 + 2) bd1 A1 c1 ok1 (by omega) 0) ?_
 rintro t6 S6 ⟨d2, bd2, A2, c2, e2, ok2, rfl, rfl⟩
 refine nl ?_
 refine AW.rseqH (HeldCs []) rfl (tells_cs tc0) ?_
 refine T2 (i := 0) rfl (heldAll (freeMove rfl (E rfl rfl))) ?_
 refine AWH.two (i := 1) (j := 5) (by kernel_rfl) rfl rfl ?_ ?_
 ·have hMain : fnB bd2 = fMain := by unfold fMain; rw [show mMain (bd0 [109, 97, 105, 110] 0) = ((), bd2) from (bq e1).trans e2]
  refine cE ce_35 [Ent.box b0 56 (([.slice none 0 0, .slice none 0 0, .int .i64 0] : List Value).map T.v)] (BdE p bd2 A2 c2) rfl rfl rfl (cDone p bd2 A2 c2) ?_
  rintro t8 S8 ⟨hD, rfl⟩
  rw [hMain] at hD
  subst hD
  refine AWL.nil (kpH tc0 ?_)
  refine AWH.three (i := 2) (j := 3) (k := 5) (by kernel_rfl) rfl rfl rfl ?_ ?_ ?_
  ·refine AWL.buildSliceRow rfl rfl (B rfl) rfl el_53 (B rfl) rfl (evsC (E rfl rfl) evs0) (by decide) rfl rfl (fun A9 => ?_)
   refine AWL.perm (List.perm_append_singleton _ _).symm ?_
   refine AWL.nil (kpH tc0 ?_)
   refine AWH.two (i := 3) (j := 5) (by kernel_rfl) rfl rfl ?_ ?_
   ·refine cE ce_36 [Ent.row A9 1 1 93 5 (([.agg (fnCells fMain)] : List T).flatMap cellsT), Ent.box b0 56 (([.slice none 0 0, .slice none 0 0, .int .i64 0] : List Value).map T.v)] [] rfl rfl rfl cFunctions ?_
    rintro t10 S10 ⟨rfl, rfl⟩
    refine AWL.nil (kpH tc0 ?_)
    refine AWH.two (i := 4) (j := 5) (by kernel_rfl) rfl rfl ?_ ?_
    ·refine AWL.appendRow (i := 0) rfl rfl (B rfl) rfl el_53 (B rfl) rfl (E rfl rfl) (SrcT.sl (m := 11) so_53 (B rfl) (E rfl rfl) rfl) (by unfold maxLen; omega) (by omega) (fun A11 c11 => ?_)
     refine AWL.nil (kpH tc0 ?_)
     refine AWH.one (i := 5) (by kernel_rfl) rfl ?_
     refine AWL.makeRow (n := 400) (c := 400) rfl rfl (B rfl) rfl el_54 (E rfl rfl) (E rfl rfl) (Nat.le_refl _) (by omega) (by unfold maxLen; omega) (fun A12 => ?_)
     refine AWL.perm (List.perm_append_singleton _ _).symm ?_
     refine AWL.nil (kpH tc0 ?_)
     refine AWH.one (i := 6) (by kernel_rfl) rfl ?_
     refine Y1 (Yv.buildS rfl sh_56 (evpC eV (evpC eV evp0)) (fun _ => rfl)) ?_
     refine AWL.nil (kpH tc0 ?_)
     refine AWH.one (i := 7) (by kernel_rfl) rfl ?_
     refine AWL.storeBox (i := 2) rfl rfl rfl ag_56 rfl (E rfl rfl) (E rfl rfl) rfl rfl nB ?_
     refine AWL.nil (kpH tc0 ?_)
     refine AWH.done (by kernel_rfl) ?_
     refine AW.freezeCell 1 1 0 rfl (by decide) rfl rfl ?_
     refine AW.freezeCell 0 0 1 rfl (by decide) rfl rfl ?_
     refine AW.ret (retI (.cellA (i := 0) rfl ag_56 rfl rfl rfl .nil) ?_)
     refine congrArg T.agg ?_
     show [T.sl 5 _, T.sl 1 _, _] = [T.sl 5 _, T.sl 1 _, _]
     rw [zeros_data]
     try rfl
    refine AWL.makeRow (n := 400) (c := 400) rfl rfl (B rfl) rfl el_54 (E rfl rfl) (E rfl rfl) (Nat.le_refl _) (by omega) (by unfold maxLen; omega) (fun A12 => ?_)
    refine AWL.perm (List.perm_append_singleton _ _).symm ?_
    refine AWL.nil (kpH tc0 ?_)
    refine AWH.one (i := 4) (by kernel_rfl) rfl ?_
    refine AWL.appendRow (i := 1) rfl rfl (B rfl) rfl el_53 (B rfl) rfl (E rfl rfl) (SrcT.sl (m := 11) so_53 (B rfl) (E rfl rfl) rfl) (by unfold maxLen; omega) (by omega) (fun A11 c11 => ?_)
    refine AWL.nil (kpH tc0 ?_)
    refine AWH.one (i := 6) (by kernel_rfl) rfl ?_
    refine Y1 (Yv.buildS rfl sh_56 (evpC eV (evpC eV evp0)) (fun _ => rfl)) ?_
    refine AWL.nil (kpH tc0 ?_)
    refine AWH.one (i := 7) (by kernel_rfl) rfl ?_
    refine AWL.storeBox (i := 2) rfl rfl rfl ag_56 rfl (E rfl rfl) (E rfl rfl) rfl rfl nB ?_
    refine AWL.nil (kpH tc0 ?_)
    refine AWH.done (by kernel_rfl) ?_
    refine AW.freezeCell 1 1 0 rfl (by decide) rfl rfl ?_
    refine AW.freezeCell 0 0 1 rfl (by decide) rfl rfl ?_
    refine AW.ret (retI (.cellA (i := 0) rfl ag_56 rfl rfl rfl .nil) ?_)
    refine congrArg T.agg ?_
    show [T.sl 5 _, T.sl 1 _, _] = [T.sl 5 _, T.sl 1 _, _]
    rw [zeros_data]
    try rfl
   refine AWL.makeRow (n := 400) (c := 400) rfl rfl (B rfl) rfl el_54 (E rfl rfl) (E rfl rfl) (Nat.le_refl _) (by omega) (by unfold maxLen; omega) (fun A12 => ?_)
   refine AWL.perm (List.perm_append_singleton _ _).symm ?_
   refine AWL.nil (kpH tc0 ?_)
   refine AWH.one (i := 3) (by kernel_rfl) rfl ?_
   refine cE ce_36 [Ent.row A12 400 400 5 1 (List.replicate 400 (([.int .u8 0] : List Value).map T.v)).flatten, Ent.row A9 1 1 93 5 (([.agg (fnCells fMain)] : List T).flatMap cellsT), Ent.box b0 56 (([.slice none 0 0, .slice none 0 0, .int .i64 0] : List Value).map T.v)] [] rfl rfl rfl cFunctions ?_
   rintro t10 S10 ⟨rfl, rfl⟩
   refine AWL.nil (kpH tc0 ?_)
   refine AWH.one (i := 4) (by kernel_rfl) rfl ?_
   refine AWL.appendRow (i := 1) rfl rfl (B rfl) rfl el_53 (B rfl) rfl (E rfl rfl) (SrcT.sl (m := 11) so_53 (B rfl) (E rfl rfl) rfl) (by unfold maxLen; omega) (by omega) (fun A11 c11 => ?_)
   refine AWL.nil (kpH tc0 ?_)
   refine AWH.one (i := 6) (by kernel_rfl) rfl ?_
   refine Y1 (Yv.buildS rfl sh_56 (evpC eV (evpC eV evp0)) (fun _ => rfl)) ?_
   refine AWL.nil (kpH tc0 ?_)
   refine AWH.one (i := 7) (by kernel_rfl) rfl ?_
   refine AWL.storeBox (i := 2) rfl rfl rfl ag_56 rfl (E rfl rfl) (E rfl rfl) rfl rfl nB ?_
   refine AWL.nil (kpH tc0 ?_)
   refine AWH.done (by kernel_rfl) ?_
   refine AW.freezeCell 1 1 0 rfl (by decide) rfl rfl ?_
   refine AW.freezeCell 0 0 1 rfl (by decide) rfl rfl ?_
   refine AW.ret (retI (.cellA (i := 0) rfl ag_56 rfl rfl rfl .nil) ?_)
   refine congrArg T.agg ?_
   show [T.sl 5 _, T.sl 1 _, _] = [T.sl 5 _, T.sl 1 _, _]
   rw [zeros_data]
   try rfl
  ·refine cE ce_36 [Ent.box b0 56 (([.slice none 0 0, .slice none 0 0, .int .i64 0] : List Value).map T.v)] [] rfl rfl rfl cFunctions ?_
   rintro t10 S10 ⟨rfl, rfl⟩
   refine AWL.nil (kpH tc0 ?_)
   refine AWH.two (i := 2) (j := 5) (by kernel_rfl) rfl rfl ?_ ?_
   ·refine AWL.buildSliceRow rfl rfl (B rfl) rfl el_53 (B rfl) rfl (evsC (E rfl rfl) evs0) (by decide) rfl rfl (fun A9 => ?_)
    refine AWL.perm (List.perm_append_singleton _ _).symm ?_
    refine AWL.nil (kpH tc0 ?_)
    refine AWH.two (i := 4) (j := 5) (by kernel_rfl) rfl rfl ?_ ?_
    ·refine AWL.appendRow (i := 0) rfl rfl (B rfl) rfl el_53 (B rfl) rfl (E rfl rfl) (SrcT.sl (m := 11) so_53 (B rfl) (E rfl rfl) rfl) (by unfold maxLen; omega) (by omega) (fun A11 c11 => ?_)
     refine AWL.nil (kpH tc0 ?_)
     refine AWH.one (i := 5) (by kernel_rfl) rfl ?_
     refine AWL.makeRow (n := 400) (c := 400) rfl rfl (B rfl) rfl el_54 (E rfl rfl) (E rfl rfl) (Nat.le_refl _) (by omega) (by unfold maxLen; omega) (fun A12 => ?_)
     refine AWL.perm (List.perm_append_singleton _ _).symm ?_
     refine AWL.nil (kpH tc0 ?_)
     refine AWH.one (i := 6) (by kernel_rfl) rfl ?_
     refine Y1 (Yv.buildS rfl sh_56 (evpC eV (evpC eV evp0)) (fun _ => rfl)) ?_
     refine AWL.nil (kpH tc0 ?_)
     refine AWH.one (i := 7) (by kernel_rfl) rfl ?_
     refine AWL.storeBox (i := 2) rfl rfl rfl ag_56 rfl (E rfl rfl) (E rfl rfl) rfl rfl nB ?_
     refine AWL.nil (kpH tc0 ?_)
     refine AWH.done (by kernel_rfl) ?_
     refine AW.freezeCell 1 1 0 rfl (by decide) rfl rfl ?_
     refine AW.freezeCell 0 0 1 rfl (by decide) rfl rfl ?_
     refine AW.ret (retI (.cellA (i := 0) rfl ag_56 rfl rfl rfl .nil) ?_)
     refine congrArg T.agg ?_
     show [T.sl 5 _, T.sl 1 _, _] = [T.sl 5 _, T.sl 1 _, _]
     rw [zeros_data]
     try rfl
    refine AWL.makeRow (n := 400) (c := 400) rfl rfl (B rfl) rfl el_54 (E rfl rfl) (E rfl rfl) (Nat.le_refl _) (by omega) (by unfold maxLen; omega) (fun A12 => ?_)
    refine AWL.perm (List.perm_append_singleton _ _).symm ?_
    refine AWL.nil (kpH tc0 ?_)
    refine AWH.one (i := 4) (by kernel_rfl) rfl ?_
    refine AWL.appendRow (i := 1) rfl rfl (B rfl) rfl el_53 (B rfl) rfl (E rfl rfl) (SrcT.sl (m := 11) so_53 (B rfl) (E rfl rfl) rfl) (by unfold maxLen; omega) (by omega) (fun A11 c11 => ?_)
    refine AWL.nil (kpH tc0 ?_)
    refine AWH.one (i := 6) (by kernel_rfl) rfl ?_
    refine Y1 (Yv.buildS rfl sh_56 (evpC eV (evpC eV evp0)) (fun _ => rfl)) ?_
    refine AWL.nil (kpH tc0 ?_)
    refine AWH.one (i := 7) (by kernel_rfl) rfl ?_
    refine AWL.storeBox (i := 2) rfl rfl rfl ag_56 rfl (E rfl rfl) (E rfl rfl) rfl rfl nB ?_
    refine AWL.nil (kpH tc0 ?_)
    refine AWH.done (by kernel_rfl) ?_
    refine AW.freezeCell 1 1 0 rfl (by decide) rfl rfl ?_
    refine AW.freezeCell 0 0 1 rfl (by decide) rfl rfl ?_
    refine AW.ret (retI (.cellA (i := 0) rfl ag_56 rfl rfl rfl .nil) ?_)
    refine congrArg T.agg ?_
    show [T.sl 5 _, T.sl 1 _, _] = [T.sl 5 _, T.sl 1 _, _]
    rw [zeros_data]
    try rfl
   refine AWL.makeRow (n := 400) (c := 400) rfl rfl (B rfl) rfl el_54 (E rfl rfl) (E rfl rfl) (Nat.le_refl _) (by omega) (by unfold maxLen; omega) (fun A12 => ?_)
   refine AWL.perm (List.perm_append_singleton _ _).symm ?_
   refine AWL.nil (kpH tc0 ?_)
   refine AWH.one (i := 2) (by kernel_rfl) rfl ?_
   refine AWL.buildSliceRow rfl rfl (B rfl) rfl el_53 (B rfl) rfl (evsC (E rfl rfl) evs0) (by decide) rfl rfl (fun A9 => ?_)
   refine AWL.perm (List.perm_append_singleton _ _).symm ?_
   refine AWL.nil (kpH tc0 ?_)
   refine AWH.one (i := 4) (by kernel_rfl) rfl ?_
   refine AWL.appendRow (i := 0) rfl rfl (B rfl) rfl el_53 (B rfl) rfl (E rfl rfl) (SrcT.sl (m := 11) so_53 (B rfl) (E rfl rfl) rfl) (by unfold maxLen; omega) (by omega) (fun A11 c11 => ?_)
   refine AWL.nil (kpH tc0 ?_)
   refine AWH.one (i := 6) (by kernel_rfl) rfl ?_
   refine Y1 (Yv.buildS rfl sh_56 (evpC eV (evpC eV evp0)) (fun _ => rfl)) ?_
   refine AWL.nil (kpH tc0 ?_)
   refine AWH.one (i := 7) (by kernel_rfl) rfl ?_
   refine AWL.storeBox (i := 2) rfl rfl rfl ag_56 rfl (E rfl rfl) (E rfl rfl) rfl rfl nB ?_
   refine AWL.nil (kpH tc0 ?_)
   refine AWH.done (by kernel_rfl) ?_
   refine AW.freezeCell 0 1 0 rfl (by decide) rfl rfl ?_
   refine AW.freezeCell 0 0 1 rfl (by decide) rfl rfl ?_
   refine AW.ret (retI (.cellA (i := 0) rfl ag_56 rfl rfl rfl .nil) ?_)
   refine congrArg T.agg ?_
   show [T.sl 5 _, T.sl 1 _, _] = [T.sl 5 _, T.sl 1 _, _]
   rw [zeros_data]
   try rfl
  refine AWL.makeRow (n := 400) (c := 400) rfl rfl (B rfl) rfl el_54 (E rfl rfl) (E rfl rfl) (Nat.le_refl _) (by omega) (by unfold maxLen; omega) (fun A12 => ?_)
  refine AWL.perm (List.perm_append_singleton _ _).symm ?_
  refine AWL.nil (kpH tc0 ?_)
  refine AWH.two (i := 2) (j := 3) (by kernel_rfl) rfl rfl ?_ ?_
  ·refine AWL.buildSliceRow rfl rfl (B rfl) rfl el_53 (B rfl) rfl (evsC (E rfl rfl) evs0) (by decide) rfl rfl (fun A9 => ?_)
   refine AWL.perm (List.perm_append_singleton _ _).symm ?_
   refine AWL.nil (kpH tc0 ?_)
   refine AWH.one (i := 3) (by kernel_rfl) rfl ?_
   refine cE ce_36 [Ent.row A9 1 1 93 5 (([.agg (fnCells fMain)] : List T).flatMap cellsT), Ent.row A12 400 400 5 1 (List.replicate 400 (([.int .u8 0] : List Value).map T.v)).flatten, Ent.box b0 56 (([.slice none 0 0, .slice none 0 0, .int .i64 0] : List Value).map T.v)] [] rfl rfl rfl cFunctions ?_
   rintro t10 S10 ⟨rfl, rfl⟩
   refine AWL.nil (kpH tc0 ?_)
   refine AWH.one (i := 4) (by kernel_rfl) rfl ?_
   refine AWL.appendRow (i := 0) rfl rfl (B rfl) rfl el_53 (B rfl) rfl (E rfl rfl) (SrcT.sl (m := 11) so_53 (B rfl) (E rfl rfl) rfl) (by unfold maxLen; omega) (by omega) (fun A11 c11 => ?_)
   refine AWL.nil (kpH tc0 ?_)
   refine AWH.one (i := 6) (by kernel_rfl) rfl ?_
   refine Y1 (Yv.buildS rfl sh_56 (evpC eV (evpC eV evp0)) (fun _ => rfl)) ?_
   refine AWL.nil (kpH tc0 ?_)
   refine AWH.one (i := 7) (by kernel_rfl) rfl ?_
   refine AWL.storeBox (i := 2) rfl rfl rfl ag_56 rfl (E rfl rfl) (E rfl rfl) rfl rfl nB ?_
   refine AWL.nil (kpH tc0 ?_)
   refine AWH.done (by kernel_rfl) ?_
   refine AW.freezeCell 0 1 0 rfl (by decide) rfl rfl ?_
   refine AW.freezeCell 0 0 1 rfl (by decide) rfl rfl ?_
   refine AW.ret (retI (.cellA (i := 0) rfl ag_56 rfl rfl rfl .nil) ?_)
   refine congrArg T.agg ?_
   show [T.sl 5 _, T.sl 1 _, _] = [T.sl 5 _, T.sl 1 _, _]
   rw [zeros_data]
   try rfl
  refine cE ce_36 [Ent.row A12 400 400 5 1 (List.replicate 400 (([.int .u8 0] : List Value).map T.v)).flatten, Ent.box b0 56 (([.slice none 0 0, .slice none 0 0, .int .i64 0] : List Value).map T.v)] [] rfl rfl rfl cFunctions ?_
  rintro t10 S10 ⟨rfl, rfl⟩
  refine AWL.nil (kpH tc0 ?_)
  refine AWH.one (i := 2) (by kernel_rfl) rfl ?_
  refine AWL.buildSliceRow rfl rfl (B rfl) rfl el_53 (B rfl) rfl (evsC (E rfl rfl) evs0) (by decide) rfl rfl (fun A9 => ?_)
  refine AWL.perm (List.perm_append_singleton _ _).symm ?_
  refine AWL.nil (kpH tc0 ?_)
  refine AWH.one (i := 4) (by kernel_rfl) rfl ?_
  refine AWL.appendRow (i := 0) rfl rfl (B rfl) rfl el_53 (B rfl) rfl (E rfl rfl) (SrcT.sl (m := 11) so_53 (B rfl) (E rfl rfl) rfl) (by unfold maxLen; omega) (by omega) (fun A11 c11 => ?_)
  refine AWL.nil (kpH tc0 ?_)
  refine AWH.one (i := 6) (by kernel_rfl) rfl ?_
  refine Y1 (Yv.buildS rfl sh_56 (evpC eV (evpC eV evp0)) (fun _ => rfl)) ?_
  refine AWL.nil (kpH tc0 ?_)
  refine AWH.one (i := 7) (by kernel_rfl) rfl ?_
  refine AWL.storeBox (i := 2) rfl rfl rfl ag_56 rfl (E rfl rfl) (E rfl rfl) rfl rfl nB ?_
  refine AWL.nil (kpH tc0 ?_)
  refine AWH.done (by kernel_rfl) ?_
  refine AW.freezeCell 0 1 0 rfl (by decide) rfl rfl ?_
  refine AW.freezeCell 0 0 1 rfl (by decide) rfl rfl ?_
  refine AW.ret (retI (.cellA (i := 0) rfl ag_56 rfl rfl rfl .nil) ?_)
  refine congrArg T.agg ?_
  show [T.sl 5 _, T.sl 1 _, _] = [T.sl 5 _, T.sl 1 _, _]
  rw [zeros_data]
  try rfl
 refine AWL.makeRow (n := 400) (c := 400) rfl rfl (B rfl) rfl el_54 (E rfl rfl) (E rfl rfl) (Nat.le_refl _) (by omega) (by unfold maxLen; omega) (fun A12 => ?_)
 refine AWL.perm (List.perm_append_singleton _ _).symm ?_
 refine AWL.nil (kpH tc0 ?_)
 refine AWH.one (i := 1) (by kernel_rfl) rfl ?_
 have hMain : fnB bd2 = fMain := by unfold fMain; rw [show mMain (bd0 [109, 97, 105, 110] 0) = ((), bd2) from (bq e1).trans e2]
 refine cE ce_35 [Ent.row A12 400 400 5 1 (List.replicate 400 (([.int .u8 0] : List Value).map T.v)).flatten, Ent.box b0 56 (([.slice none 0 0, .slice none 0 0, .int .i64 0] : List Value).map T.v)] (BdE p bd2 A2 c2) rfl rfl rfl (cDone p bd2 A2 c2) ?_
 rintro t8 S8 ⟨hD, rfl⟩
 rw [hMain] at hD
 subst hD
 refine AWL.nil (kpH tc0 ?_)
 refine AWH.two (i := 2) (j := 3) (by kernel_rfl) rfl rfl ?_ ?_
 ·refine AWL.buildSliceRow rfl rfl (B rfl) rfl el_53 (B rfl) rfl (evsC (E rfl rfl) evs0) (by decide) rfl rfl (fun A9 => ?_)
  refine AWL.perm (List.perm_append_singleton _ _).symm ?_
  refine AWL.nil (kpH tc0 ?_)
  refine AWH.one (i := 3) (by kernel_rfl) rfl ?_
  refine cE ce_36 [Ent.row A9 1 1 93 5 (([.agg (fnCells fMain)] : List T).flatMap cellsT), Ent.row A12 400 400 5 1 (List.replicate 400 (([.int .u8 0] : List Value).map T.v)).flatten, Ent.box b0 56 (([.slice none 0 0, .slice none 0 0, .int .i64 0] : List Value).map T.v)] [] rfl rfl rfl cFunctions ?_
  rintro t10 S10 ⟨rfl, rfl⟩
  refine AWL.nil (kpH tc0 ?_)
  refine AWH.one (i := 4) (by kernel_rfl) rfl ?_
  refine AWL.appendRow (i := 0) rfl rfl (B rfl) rfl el_53 (B rfl) rfl (E rfl rfl) (SrcT.sl (m := 11) so_53 (B rfl) (E rfl rfl) rfl) (by unfold maxLen; omega) (by omega) (fun A11 c11 => ?_)
  refine AWL.nil (kpH tc0 ?_)
  refine AWH.one (i := 6) (by kernel_rfl) rfl ?_
  refine Y1 (Yv.buildS rfl sh_56 (evpC eV (evpC eV evp0)) (fun _ => rfl)) ?_
  refine AWL.nil (kpH tc0 ?_)
  refine AWH.one (i := 7) (by kernel_rfl) rfl ?_
  refine AWL.storeBox (i := 2) rfl rfl rfl ag_56 rfl (E rfl rfl) (E rfl rfl) rfl rfl nB ?_
  refine AWL.nil (kpH tc0 ?_)
  refine AWH.done (by kernel_rfl) ?_
  refine AW.freezeCell 0 1 0 rfl (by decide) rfl rfl ?_
  refine AW.freezeCell 0 0 1 rfl (by decide) rfl rfl ?_
  refine AW.ret (retI (.cellA (i := 0) rfl ag_56 rfl rfl rfl .nil) ?_)
  refine congrArg T.agg ?_
  show [T.sl 5 _, T.sl 1 _, _] = [T.sl 5 _, T.sl 1 _, _]
  rw [zeros_data]
  try rfl
 refine cE ce_36 [Ent.row A12 400 400 5 1 (List.replicate 400 (([.int .u8 0] : List Value).map T.v)).flatten, Ent.box b0 56 (([.slice none 0 0, .slice none 0 0, .int .i64 0] : List Value).map T.v)] [] rfl rfl rfl cFunctions ?_
 rintro t10 S10 ⟨rfl, rfl⟩
 refine AWL.nil (kpH tc0 ?_)
 refine AWH.one (i := 2) (by kernel_rfl) rfl ?_
 refine AWL.buildSliceRow rfl rfl (B rfl) rfl el_53 (B rfl) rfl (evsC (E rfl rfl) evs0) (by decide) rfl rfl (fun A9 => ?_)
 refine AWL.perm (List.perm_append_singleton _ _).symm ?_
 refine AWL.nil (kpH tc0 ?_)
 refine AWH.one (i := 4) (by kernel_rfl) rfl ?_
 refine AWL.appendRow (i := 0) rfl rfl (B rfl) rfl el_53 (B rfl) rfl (E rfl rfl) (SrcT.sl (m := 11) so_53 (B rfl) (E rfl rfl) rfl) (by unfold maxLen; omega) (by omega) (fun A11 c11 => ?_)
 refine AWL.nil (kpH tc0 ?_)
 refine AWH.one (i := 6) (by kernel_rfl) rfl ?_
 refine Y1 (Yv.buildS rfl sh_56 (evpC eV (evpC eV evp0)) (fun _ => rfl)) ?_
 refine AWL.nil (kpH tc0 ?_)
 refine AWH.one (i := 7) (by kernel_rfl) rfl ?_
 refine AWL.storeBox (i := 2) rfl rfl rfl ag_56 rfl (E rfl rfl) (E rfl rfl) rfl rfl nB ?_
 refine AWL.nil (kpH tc0 ?_)
 refine AWH.done (by kernel_rfl) ?_
 refine AW.freezeCell 0 1 0 rfl (by decide) rfl rfl ?_
 refine AW.freezeCell 0 0 1 rfl (by decide) rfl rfl ?_
 refine AW.ret (retI (.cellA (i := 0) rfl ag_56 rfl rfl rfl .nil) ?_)
 refine congrArg T.agg ?_
 show [T.sl 5 _, T.sl 1 _, _] = [T.sl 5 _, T.sl 1 _, _]
 rw [zeros_data]
 try rfl

theorem cProgram : ACalls Tryz.prog 18 [] [] (fun t S => t = .agg (progCells gcP) ∧ S = []) := cProgram_.less fun t S' h => ⟨[], List.nil_sublist _, h, rfl⟩
end Go.Proofs.YtpgbpdnmjeoeoaaGreat.B

namespace Go.Proofs.YtpgbpdnmjeoeoaaGreat.G
open Go Go.RowKit
def entM (m : Mc) (n : Nat) (args : List Wd64) : Mc := { m with c := { m.c with ent := true, st := 0, ans := 0#64, code := 0 }, x := openFr (m.c.prog.funs.getD n default) (n : Int) args 0, bl := [] }
theorem fname_at {l : List Fn} {j : Nat} (h : j < l.length) : (l.flatMap fnCells)[j * 5 + 0]? = some (sv (l.getD j default).name) := flat_at fk h 0 (by decide)
theorem dropE {a r : Ent} {F M K X : St} : (a :: (M ++ X)).Sublist (([a, r] ++ F) ++ (M ++ (K ++ X))) := by
 refine List.Sublist.cons_cons a ?_
 refine List.Sublist.cons r ?_
 refine List.Sublist.trans ?_ (List.sublist_append_right F _)
 exact (List.sublist_append_right K X).append_left M
theorem permE {a r : Ent} {X : St} : (a :: r :: X).Perm ((a :: X) ++ [r]) := ((List.perm_append_singleton r X).symm).cons a
theorem fn_regsG {p : Prog} {f : Nat} (hp : ProgOk p) (hf : f < p.funs.length) : 0 ≤ (p.funs.getD f default).regs ∧ (p.funs.getD f default).regs ≤ 65536 ∧ 0 ≤ (p.funs.getD f default).slots ∧ (p.funs.getD f default).slots ≤ 1048576 := by
 have h := hp.fn _ (getD_mem hf)
 have := h.par0
 have := h.par2
 exact ⟨by omega, h.regs, h.slot0, h.slot1⟩
theorem entM_ok {p : Prog} {m : Mc} (hp : ProgOk p) (hm : m.c.prog = p) {n : Nat} (hn : n < p.funs.length) {args : List Wd64} (ha : (args.length : Int) = (p.funs.getD n default).params) : MOk p (entM m n args) := by
 refine ⟨hm, ?_, fun y hy => (by cases hy), trivial, by show 0 < 1048576; decide⟩
 show FrIn p (openFr (m.c.prog.funs.getD n default) (n : Int) args 0)
 rw [hm]
 exact FrIn.open hp hn ha 0
def mostF (h : Wd64) : Int := 4000 + 40 * ((h / 8#64).toNat : Int)
theorem most_b {h : Wd64} (hh : h.toNat ≤ 1099511627776) : (h / 8#64).toNat ≤ 137438953472 := by
 rw [BitVec.toNat_udiv, show (8#64 : Wd64).toNat = 8 from rfl]
 omega
theorem nilW : Le (.v (.slice none 0 0)) (.sl 1 (([] : List Wd64).map zw)) := fun w L u h => by cases h; exact .sl0 (Nat.zero_le _)
end Go.Proofs.YtpgbpdnmjeoeoaaGreat.G

namespace Go.Proofs.YtpgbpdnmjeoeoaaGreat.G
open Go Go.RowKit

set_option maxHeartbeats 8000000 in
theorem Enter25_ (L : DLay) (p : Prog) (hp : ProgOk p) (hpi : ProgIn p) (m : Mc) (q : DQ) (hpr : m.c.prog = p) (name : List UInt8) (args : List Wd64) (n : Nat) (hn : n < p.funs.length) (hnm : (p.funs.getD n default).name = name) (hno : ∀ j, j < n → (p.funs.getD j default).name ≠ name) (ha : (args.length : Int) = (p.funs.getD n default).params) (hal : args.length ≤ 65536) :
    ACalls Tryz.prog 25 [pv L.s, sv name, .sl 1 (args.map zw)] (DP L m q) (fun t S => t = zi 0 ∧ ∃ g c a, S = DP L (entM m n args) ⟨g, c, a, [], q.l, q.ds, q.ob⟩) := by
 have hfr := fn_regsG hp hn
 have hpl := hpi.funs
 have hpm : (m.c.prog.funs.getD n default).params = (args.length : Int) := by rw [hpr]; exact ha.symm
 have hml : m.c.prog.funs.length = p.funs.length := by rw [hpr]
 have hfu : (psLD L m.c).prog.funs = p.funs := by show m.c.prog.funs = _; rw [hpr]
 refine ACalls.intro Tryz.func25 rfl Tryz.ntmps25 nB rfl fun X w0 => ?_
 refine ra ?_
 refine AW.seq ?_
 refine ra ?_
 refine AW.block ?_
 refine AW.loop (fun (j : Nat) => [(0, true, .v (.pointer (some ⟨L.s, 0, none⟩))), (1, true, sv name), (2, true, .sl 1 (args.map zw)), (7, true, zi (j : Int))]) (fun (j : Nat) => (([Ent.box L.s 75 (psD (psLD L m.c) q.ob (.v (.slice (some ⟨q.g, 0, none⟩) (q.K.length + 1) q.c))), Ent.row (some ⟨q.g, 0, none⟩) (q.K.length + 1) q.c 116 7 (rowD q.K ++ frD m.x q.a)] ++ frE m.x q.a) ++ (memD L q.l q.ds ++ (rowsF q.K ++ labF L m.c.prog)))) (fun (j : Nat) => j ≤ n) (fun (j : Nat) => n - j) 0 ?_ ?_ ?_ ?_
 ·exact Nat.zero_le _
 ·exact (su (su (su (su sn))))
 ·rfl
 intro j hinv
 have hjl : j < (psLD L m.c).prog.funs.length := by rw [hfu]; omega
 have hjn : (psLD L m.c).prog.funs.getD j default = p.funs.getD j default := by rw [hfu]
 refine AW.seq ?_
 refine rs (ym ?_)
 refine ym ?_
 refine Y1 (Yv.nilChk rfl eV) ?_
 refine yf fo_75_0 ?_
 refine yf fo_56_0 ?_
 refine yl ag_53 0 ?_
 refine Y1 (Yv.lenSl rfl so_53 (B rfl) eV len_funs) ?_
 refine Y1 (Yv.lss rfl eV eV) (nl ?_)
 refine AW.cond rfl (fun h0t => ?_) (fun h0f => ?_)
 ·try replace h0t := odt h0t
  refine AW.skip ?_
  refine AW.seq ?_
  refine AW.block ?_
  refine AW.seq ?_
  refine rs (ym ?_)
  refine Y1 (Yv.nilChk rfl eV) ?_
  refine yf fo_75_0 ?_
  refine yf fo_56_0 ?_
  refine yl ag_53 0 ?_
  refine ym ?_
  refine Y1 (Yv.indexSl rfl ss_53 (B rfl) eV eV (fun hg => ⟨rfl, (by first | omega | (simp only [len_funs, len_zw]; omega))⟩)) ?_
  refine Y1 (Yv.fieldRp rfl fo_93_0 eV) ?_
  refine Y1 (Yv.loadRp rfl ag_9 eV (fun hg => fname_at (by omega))) ?_
  refine ym ?_
  refine Y1 (Yv.neqL rfl eV eV) (nl ?_)
  refine AW.cond rfl (fun h1t => ?_) (fun h1f => ?_)
  ·try replace h1t := odt h1t
   replace h1t : ¬ ((psLD L m.c).prog.funs.getD j default).name = name := by simpa using h1t
   refine AW.exit ?_
   refine AW.region ?_
   refine ym ?_
   refine Y1 (Yv.addN_i64 rfl eV eV (fun hg => by omega)) ?_
   refine ya ?_
   have hlt : j < n := by
    rcases Nat.lt_or_ge j n with h | h
    ·exact h
    ·exfalso
     have e : j = n := by omega
     subst e
     apply h1t
     rw [hjn]; exact hnm
   refine ⟨j + 1, by omega, by omega, (su (su (su (su sn)))), rfl⟩
  try replace h1f := odf h1f
  replace h1f : ((psLD L m.c).prog.funs.getD j default).name = name := by simpa using h1f
  have hjj : j = n := by
   rcases Nat.lt_or_ge j n with h | h
   ·exact absurd (by rw [← hjn]; exact h1f) (hno j h)
   ·omega
  subst hjj
  refine AW.skip ?_
  refine AW.seq ?_
  refine rs (ym ?_)
  refine Y1 (Yv.nilChk rfl eV) ?_
  refine yf fo_75_0 ?_
  refine yf fo_56_0 ?_
  refine yl ag_53 0 ?_
  refine ym ?_
  refine Y1 (Yv.indexSl rfl ss_53 (B rfl) eV eV (fun hg => ⟨rfl, (by first | omega | (simp only [len_funs, len_zw]; omega))⟩)) ?_
  refine Y1 (Yv.fieldRp rfl fo_93_1 eV) ?_
  refine Y1 (Yv.loadRp rfl ag_3 eV (fun hg => fpar_at (by omega))) ?_
  refine ym ?_
  refine Y1 (Yv.lenSl rfl so_32 (B rfl) eV len_zw) ?_
  refine Y1 (Yv.neq rfl eV eV) (nl ?_)
  refine AW.cond rfl (fun h2t => ?_) (fun h2f => ?_)
  ·try replace h2t := odt h2t
   exfalso; simp only [Bool.not_eq_true', decide_eq_false_iff_not] at h2t; apply h2t; rw [hjn]; exact ha.symm
  try replace h2f := odf h2f
  have hjE : (psLD L (entM m j args).c).prog.funs.getD j default = p.funs.getD j default := by
   show m.c.prog.funs.getD j default = _
   rw [hpr]
  refine AW.skip ?_
  refine rs (ym ?_)
  refine Y1 (Yv.nilChk rfl eV) ?_
  refine yf fo_75_6 ?_
  refine AWL.storeBox (i := 0) rfl rfl rfl ag_73 rfl (E rfl rfl) (E rfl rfl) rfl rfl nB (nl ?_)
  refine rs (ym ?_)
  refine Y1 (Yv.nilChk rfl eV) ?_
  refine yf fo_75_7 ?_
  refine AWL.storeBox (i := 0) rfl rfl rfl ag_4 rfl (E rfl rfl) (E rfl rfl) rfl rfl nB (nl ?_)
  refine rs (ym ?_)
  refine Y1 (Yv.nilChk rfl eV) ?_
  refine yf fo_75_8 ?_
  refine AWL.storeBox (i := 0) rfl rfl rfl ag_3 rfl (E rfl rfl) (E rfl rfl) rfl rfl nB (nl ?_)
  refine rs (ym ?_)
  refine Y1 (Yv.nilChk rfl eV) ?_
  refine yf fo_75_9 ?_
  refine AWL.storeBox (i := 0) rfl rfl rfl ag_22 rfl (E rfl rfl) (E rfl rfl) rfl rfl nB (nl ?_)
  refine rs (ym ?_)
  refine Y1 (Yv.nilChk rfl eV) ?_
  refine yf fo_75_10 ?_
  refine AWL.storeBox (i := 0) rfl rfl rfl ag_3 rfl (E rfl rfl) (E rfl rfl) rfl rfl nB (nl ?_)
  refine AW.drop (S' := Ent.box L.s 75 (psD (psLD L (entM m j args).c) q.ob (.v (.slice none 0 0))) :: (memD L q.l q.ds ++ labF L m.c.prog)) dropE ?_
  refine AW.rowNil 116 7 ?_
  refine AW.perm (S' := [Ent.box L.s 75 (psD (psLD L (entM m j args).c) q.ob (.v (.slice none 0 0))), Ent.row none 0 0 116 7 []] ++ (memD L q.l q.ds ++ labF L m.c.prog)) permE ?_
  refine rs (ym ?_)
  refine ym ?_
  refine ym ?_
  refine AWL.callF rfl rfl (B rfl) rfl ce_40 (E rfl rfl) (evsC (E rfl rfl) (evsC (E rfl rfl) (evsC (E rfl rfl) (evsC (E rfl rfl) evs0)))) (F1 := []) (S1 := [Ent.box L.s 75 (psD (psLD L (entM m j args).c) q.ob (.v (.slice none 0 0))), Ent.row none 0 0 116 7 []]) (F2 := (memD L q.l q.ds ++ labF L m.c.prog)) rfl (Dopen43 L.s (psLD L (entM m j args).c) q.ob j args 0 none 0 0 [] hjl (by show m.c.prog.funs.length ≤ _; omega) (by rw [hjE]; exact hfr.1) (by rw [hjE]; exact hfr.2.1) (by rw [hjE]; exact hfr.2.2.1) (by rw [hjE]; exact hfr.2.2.2) (by rw [hjE]; have := (hp.fn _ (getD_mem hn)).par2; omega) (Nat.zero_le _)) ?_
  rintro t59 S59 ⟨rfl, g, c', a, rfl⟩
  refine nl ?_
  refine ra ?_
  refine AW.ret (retI (.tmp rfl .nil) ?_)
  exact ⟨rfl, g, c', a, rfl⟩
 try replace h0f := odf h0f
 exfalso; omega

set_option maxHeartbeats 400000 in
theorem Most27 (h : Wd64) (hh : h.toNat ≤ 1099511627776) :
    ACalls Tryz.prog 27 [zw h] [] (fun t S => t = zi (mostF h)) := by
 have hb := most_b hh
 refine ACalls.intro Tryz.func27 rfl Tryz.ntmps27 nB rfl fun X w0 => ?_
 refine ra ?_
 refine rs (ym ?_)
 refine Y1 (Yv.quoW (b := 8#64) rfl (E rfl rfl) (E rfl rfl) (by decide)) ?_
 refine Y1 (Yv.convN_i64 rfl Tryz.underlying22 kd_3 eV (fun hg => by omega)) ?_
 refine Y1 (Yv.mulN_i64 rfl eV eV (fun hg => by omega)) ?_
 refine Y1 (Yv.addN_i64 rfl eV eV (fun hg => by omega)) ?_
 refine ya ?_
 refine AW.ret (retI (.tmp rfl .nil) ?_)
 rfl

end Go.Proofs.YtpgbpdnmjeoeoaaGreat.G

namespace Go.Proofs.YtpgbpdnmjeoeoaaGreat.G
open Go Go.RowKit B
set_option maxRecDepth 100000
theorem gc_check : checkR gcP = 0 := by kernel_rfl
theorem gc_ok : ProgOk gcP := check_good gc_check
theorem gc_z : psData gcP = 400#64 := by kernel_rfl
theorem gc_len : gcP.funs.length = 12 := by kernel_rfl
section
variable {RF : Int → Wd64 → Wd64 → Wd64} {P : Prog} {h : Wd64} {e b : Bool} {w : V.PW} {s s' : Sy} {m : Mc} {obs : List Ob}
theorem srun_w (hz : psData P = 400#64) : ∀ {n : Nat} {bs : List Bool} {s s' : Sy} {acc obs : List Ob} {m : Mc}, Is P h e w s m → srun P h bs n s acc = some (s', obs) → (∀ o ∈ obs, o.ok) → ∀ j, j ≤ n → (runM RF j m).w = w
 | _, _, _, _, _, _, m, hm, _, _, 0, _ => hm.w
 | 0, _, _, _, _, _, m, hm, _, _, j + 1, hj => absurd hj (by omega)
 | n + 1, bs, s, s', acc, obs, m, hm, hr, ho, j + 1, hj => by
  rw [srun] at hr
  split at hr
  ·rename_i s2 h2
   obtain ⟨m1, r1, i1⟩ := sstep_ok (RF := RF) hz hm h2 (fun _ q => by cases q)
   rw [r1]
   exact srun_w hz i1 hr ho j (by omega)
  ·rename_i s2 obs2 _ h2
   obtain ⟨m1, r1, i1⟩ := sstep_ok (RF := RF) hz hm h2 (fun o q => ho o (srun_acc hr o (List.mem_append.2 (.inl q))))
   rw [r1]
   exact srun_w hz i1 hr ho j (by omega)
  ·cases hr
structure Ended (P : Prog) (h : Wd64) (w : V.PW) (c : Nat → Wd64) (v : Wd64) (m : Mc) : Prop where
 prog : m.c.prog = P
 heap : m.c.heap = h
 strict : m.c.strict = false
 st : m.c.st = 3
 ans : m.c.ans = v
 w : m.w = w
 c : Cells c m.mem
theorem ret_end (hm : Is P h true w s m) (hk : (insS P s.top).kind = 26) {v : SV} (hv : kn (insS P s.top).a.toNat s.top.ρ = some v) (hb : s.bl = []) : ∃ m', (∀ N, runM RF (N + 1) m = m') ∧ Ended P h w s.c v.val m' := by
 have hx := (adv_is hm).1
 have hA := hm.top.go (atS P s.top)
 rw [← hx] at hA
 obtain ⟨a1, a2⟩ := hA.rd hv
 have hbl := hm.bl
 rw [hb] at hbl
 cases hml : m.bl with
 | cons z l => rw [hml] at hbl; exact hbl.elim
 | nil =>
  have hst : stepM RF (advM m) (insS P s.top) = some { advM m with c := { m.c with st := 3, ans := v.val }, bl := [] } := by
   rw [stepB (by rw [rd_a (by rw [hk]; exact ⟨rfl, rfl, rfl⟩)]; exact ok_a a2) hk, a1]
   unfold backM
   rw [show (advM m).bl = [] from hml]
   unfold backC
   rw [if_pos (show (advM m).c.ent = true from hm.ent)]
   rfl
  refine ⟨tickC { advM m with c := { m.c with st := 3, ans := v.val }, bl := [] }, fun N => ?_, ⟨hm.prog, hm.heap, hm.strict, rfl, rfl, hm.w, hm.c⟩⟩
  rw [runM, if_neg (fun q => q hm.st), (adv_is hm).2, hst]
  exact runM_stop (show (3 : Int) ≠ 0 by decide) N
end
/-! ### entered -/
theorem ent_is {h : Wd64} {w : V.PW} {m : Mc} {c : Nat → Wd64} (hp : m.c.prog = gcP) (hh : m.c.heap = h) (hs : m.c.strict = false) (hw : m.w = w) (hc : Cells c m.mem) {n : Nat} {vs : List SV} (hl : vs.length ≤ (fnS gcP n).regs.toNat) : Is gcP h true w ⟨⟨n, 0, argsR 0 vs, 0⟩, [], c⟩ (entM m n (vs.map SV.val)) := by
 refine ⟨hp, hh, hs, rfl, rfl, hw, ?_, trivial, hc⟩
 show FrIs gcP (openFr (m.c.prog.funs.getD n default) (n : Int) (vs.map SV.val) 0) _
 rw [hp]
 exact open_is hl 0
/-! ### gc.start -/
def stS (h : Wd64) (b : Bool) (c : Nat → Wd64) : Option (Sy × List Ob) := srun gcP h [b] (bif b then 89 else 90) ⟨⟨1, 0, [], 0⟩, [], c⟩ []
def cellS (r : Option (Sy × List Ob)) (k : Nat) : Wd64 := match r with | some (s, _) => s.c k | none => 0
def symS (r : Option (Sy × List Ob)) : Sy := match r with | some (s, _) => s | none => ⟨⟨0, 0, [], 0⟩, [], fun _ => 0⟩
def prt (h : Wd64) : Wd64 := (h >>> (7#64 &&& 63#64).toNat) <<< (3#64 &&& 63#64).toNat
def held (h : Wd64) : Wd64 := prt h <<< (1#64 &&& 63#64).toNat
def botW (h : Wd64) : Wd64 := (((1073741824#64 + prt h * 2#64) + prt h * 4#64) + prt h * 4#64) + prt h * 2#64 + 64#64
def endW (h : Wd64) (b : Bool) : Wd64 := botW h + (bif b then held h else 16777216#64)
theorem st_some (h : Wd64) (b : Bool) (c : Nat → Wd64) : stS h b c = some (symS (stS h b c), [⟨4, held h, 16777216#64, b⟩]) := by
 cases b <;> kernel_rfl
theorem st_kind (h : Wd64) (b : Bool) (c : Nat → Wd64) : (insS gcP (symS (stS h b c)).top).kind = 26 ∧ kn (insS gcP (symS (stS h b c)).top).a.toNat (symS (stS h b c)).top.ρ = some (.wd 1#64) ∧ (symS (stS h b c)).bl = [] := by
 cases b <;> exact ⟨by kernel_rfl, by kernel_rfl, by kernel_rfl⟩
theorem st_cells (h : Wd64) (b : Bool) (c : Nat → Wd64) : (symS (stS h b c)).c 0 = botW h ∧ (symS (stS h b c)).c 1 = botW h ∧ (symS (stS h b c)).c 2 = endW h b ∧ (symS (stS h b c)).c 3 = 1#64 ∧ (∀ k, k < 8 → (symS (stS h b c)).c (4 + 2 * k) = 16777227#64 ∧ (symS (stS h b c)).c (5 + 2 * k) = 1#64) := by
 cases b <;> refine ⟨by kernel_rfl, by kernel_rfl, by kernel_rfl, by kernel_rfl, fun k hk => ?_⟩ <;>
  (match k, hk with
   | 0, _ => exact ⟨by kernel_rfl, by kernel_rfl⟩
   | 1, _ => exact ⟨by kernel_rfl, by kernel_rfl⟩
   | 2, _ => exact ⟨by kernel_rfl, by kernel_rfl⟩
   | 3, _ => exact ⟨by kernel_rfl, by kernel_rfl⟩
   | 4, _ => exact ⟨by kernel_rfl, by kernel_rfl⟩
   | 5, _ => exact ⟨by kernel_rfl, by kernel_rfl⟩
   | 6, _ => exact ⟨by kernel_rfl, by kernel_rfl⟩
   | 7, _ => exact ⟨by kernel_rfl, by kernel_rfl⟩
   | (n + 8), q => exact absurd q (by omega))
theorem heap_n {h : Wd64} (hh : h.toNat ≤ 1099511627776) : (prt h).toNat = h.toNat / 128 * 8 := by
 have e1 : (7#64 &&& 63#64 : Wd64).toNat = 7 := rfl
 have e2 : (3#64 &&& 63#64 : Wd64).toNat = 3 := rfl
 unfold prt
 rw [e1, e2, BitVec.toNat_shiftLeft, BitVec.toNat_ushiftRight, Nat.shiftRight_eq_div_pow, Nat.shiftLeft_eq]
 omega
def smallB (h : Wd64) : Bool := holdsF 4 (held h) 16777216#64
theorem start_run {h : Wd64} {w : V.PW} {m : Mc} {c : Nat → Wd64} (hp : m.c.prog = gcP) (hh : m.c.heap = h) (hs : m.c.strict = false) (hw : m.w = w) (hc : Cells c m.mem) :
    ∃ mR, (∀ N, 91 ≤ N → runM realF N (entM m 1 []) = mR) ∧ (∀ j, (runM realF j (entM m 1 [])).w = w) ∧ Ended gcP h w (symS (stS h (smallB h) c)).c 1#64 mR := by
 have hi : Is gcP h true w ⟨⟨1, 0, [], 0⟩, [], c⟩ (entM m 1 []) := ent_is (vs := []) hp hh hs hw hc (Nat.zero_le _)
 have hr := st_some h (smallB h) c
 have ho : ∀ o ∈ ([⟨4, held h, 16777216#64, smallB h⟩] : List Ob), o.ok := fun o q => by
  rw [List.mem_singleton.1 q]; rfl
 obtain ⟨m1, r1, i1⟩ := srun_ok (RF := realF) gc_z hi hr ho
 obtain ⟨k1, k2, k3⟩ := st_kind h (smallB h) c
 obtain ⟨mR, r2, e2⟩ := ret_end (RF := realF) i1 k1 k2 k3
 have hn : (bif smallB h then 89 else 90 : Nat) ≤ 90 := by cases smallB h <;> decide
 have hend : ∀ N, (bif smallB h then 89 else 90 : Nat) < N → runM realF N (entM m 1 []) = mR := fun N hN => by
  rw [show N = (N - (bif smallB h then 89 else 90 : Nat) - 1 + 1) + (bif smallB h then 89 else 90 : Nat) by omega, r1, r2]
 refine ⟨mR, fun N hN => hend N (by omega), fun j => ?_, e2⟩
 by_cases q : j ≤ (bif smallB h then 89 else 90 : Nat)
 ·exact srun_w gc_z hi hr ho j q
 rw [hend j (by omega)]; exact e2.w
end Go.Proofs.YtpgbpdnmjeoeoaaGreat.G

namespace Go.Proofs.YtpgbpdnmjeoeoaaGreat.G
open Go Go.RowKit B
set_option maxRecDepth 100000
def insB (i : Ins) : Bool := decide (-9223372036854775808 ≤ i.imm) && decide (i.imm ≤ 9223372036854775807) && decide (i.args.length ≤ 1048576)
def fnInB (f : Fn) : Bool := decide (-9223372036854775808 ≤ f.regs) && decide (f.regs ≤ 9223372036854775807) && decide (f.code.length ≤ 1048576) && f.code.all insB
theorem gc_fns : gcP.funs.all fnInB = true := by kernel_rfl
theorem gc_sum : decide ((gcP.funs.map fun f => f.code.length).sum ≤ 1048576) = true := by kernel_rfl
theorem gc_in : ProgIn gcP := by
 refine ⟨by rw [gc_len]; decide, by show (List.replicate 400 (0 : UInt8)).length ≤ _; rw [List.length_replicate]; decide, fun f hf => ?_, of_decide_eq_true gc_sum, by decide, by decide⟩
 have h := List.all_eq_true.1 gc_fns f hf
 unfold fnInB at h
 simp only [Bool.and_eq_true, decide_eq_true_eq, List.all_eq_true] at h
 obtain ⟨⟨⟨h1, h2⟩, h3⟩, h4⟩ := h
 refine ⟨h1, h2, h3, fun i hi => ?_⟩
 have g := h4 i hi
 unfold insB at g
 simp only [Bool.and_eq_true, decide_eq_true_eq] at g
 exact ⟨g.1.1, g.1.2, g.2⟩
def w00 : V.PW := ⟨[], [], V.opn0, []⟩
theorem side00 {ds : V.DS} (h1 : ds.stdin = []) (h2 : ds.opn = V.opn0) (h3 : ds.trace = []) (h4 : V.NI (V.nF []) (ds.files.map V.nb)) : V.Side w00 (V.pl ds) :=
 ⟨h1, h2, h3, h4.perm, h4.srt⟩
def wordM (m : Mc) (a : Wd64) : Wd64 := if (sizeOk 8 && thereF (psData m.c.prog) m.c.heap a (wI 8)) = true then leF m.mem a 8 else 0#64
theorem permL {a r : Ent} {F M D X : St} : (([a, r] ++ F) ++ ((M ++ D) ++ X)).Perm ((a :: M) ++ ((r :: F) ++ (D ++ X))) := by
 show (a :: (r :: F ++ ((M ++ D) ++ X))).Perm (a :: (M ++ ((r :: F) ++ (D ++ X))))
 refine List.Perm.cons a ?_
 rw [List.append_assoc M D X]
 exact List.perm_append_comm_assoc _ _ _
theorem DLoadP {L : DLay} {p : Prog} {m : Mc} {q : DQ} (hp : ProgOk p) (hpi : ProgIn p) (hpr : m.c.prog = p) (hq : DRel m q) (a : Wd64) :
    ACalls Tryz.prog 22 [.v (.pointer (some ⟨L.s, 0, none⟩)), zw a, zi 8] (DP L m q) (fun t S => t = .tup [zw (wordM m a), bv (sizeOk 8 && thereF (psData m.c.prog) m.c.heap a (wI 8))] ∧ S = DP L m q) := by
 have h := DLoad20 L.s L.pg (psLD L m.c) q.ob (.v (.slice (some ⟨q.g, 0, none⟩) (q.K.length + 1) q.c)) q.l rfl hq.ok (by show m.c.prog.data.length ≤ _; rw [hpr]; exact hpi.data) (by show 0 ≤ m.c.prog.zero; rw [hpr]; exact hp.zero.1) (by show m.c.prog.zero ≤ _; rw [hpr]; exact hp.zero.2) a 8
 have e : (if (sizeOk 8 && thereF (psData (psLD L m.c).prog) (psLD L m.c).heap a (wI 8)) = true then leF (getM q.l) a (8 : Int).toNat else 0#64) = wordM m a := by
  unfold wordM; rw [hq.mem]; rfl
 rw [e] at h
 exact ACalls.keepIn _ h permL
theorem c_end {m mR : Mc} (h : DEnd m mR) : m.c = mR.c := by
 rcases h with rfl | ⟨_, at_, rfl⟩ <;> rfl
end Go.Proofs.YtpgbpdnmjeoeoaaGreat.G

namespace Go.Proofs.YtpgbpdnmjeoeoaaGreat.G
open Go Go.RowKit

set_option maxHeartbeats 400000 in
theorem Word8 (L : DLay) (p : Prog) (hp : ProgOk p) (hpi : ProgIn p) (m : Mc) (q : DQ) (hpr : m.c.prog = p) (hq : DRel m q) (a : Wd64) :
    ACalls Tryz.prog 8 [pv L.s, zw a] (DP L m q) (fun t S => t = zw (wordM m a) ∧ S = DP L m q) := by
 refine ACalls.intro Tryz.func8 rfl Tryz.ntmps8 nB rfl fun X w0 => ?_
 refine ra ?_
 refine rs (ym ?_)
 refine ym ?_
 refine cA ce_22 rfl rfl rfl (DLoadP hp hpi hpr hq a) ?_
 rintro t10 S10 ⟨rfl, rfl⟩
 refine ym ?_
 refine Y1 (Yv.extract rfl eV rfl) ?_
 refine Y1 (Yv.extract rfl eV rfl) ?_
 refine Y1 (Yv.assign rfl eV) ?_
 refine ya ?_
 refine rs (ym ?_)
 refine ya ?_
 refine AW.ret (retI (.tmp rfl .nil) ?_)
 exact ⟨rfl, rfl⟩

end Go.Proofs.YtpgbpdnmjeoeoaaGreat.G

namespace Go.Proofs.YtpgbpdnmjeoeoaaGreat.G
open Go Go.RowKit B
set_option maxRecDepth 100000
theorem checkGc : ACalls Tryz.prog 19 [.agg (progCells gcP)] [] (fun t S => t = zi 0) := (Check7 gcP gc_in).mono fun t S h => by rw [h, gc_check]
theorem wt_le : Le (.agg [.v (.string ⟨#[]⟩), .v (.slice none 0 0)]) (V.worldT [] []) := Le.agg (.cons .refl (.cons (fun w L u h => by cases h; exact .sl0 (Nat.zero_le _)) .refl))
def nmStart : List UInt8 := [103, 99, 46, 115, 116, 97, 114, 116]
theorem st_name : (gcP.funs.getD 1 default).name = nmStart := by kernel_rfl
theorem st_no : ∀ j, j < 1 → (gcP.funs.getD j default).name ≠ nmStart := fun j hj => by
 obtain rfl : j = 0 := by omega
 rw [show (gcP.funs.getD 0 default).name = [109, 97, 105, 110] by kernel_rfl]
 decide
theorem st_par : ((([] : List Wd64).length : Nat) : Int) = (gcP.funs.getD 1 default).params := by kernel_rfl
theorem puts0 (a : Wd64) (t : List UInt8) (ht : ∀ j, t.getD j 0 = 0) : ∀ n z, putsN (fun _ => 0) a t n z = 0
 | 0, _ => rfl
 | n + 1, z => by
  rw [putsN, updM, ht]
  split
  ·rfl
  ·exact puts0 a t ht n z
theorem rep0 (n j : Nat) : (List.replicate n (0 : UInt8)).getD j 0 = 0 := by
 rw [List.getD_eq_getElem?_getD, List.getElem?_replicate]
 split <;> rfl
theorem le0 {m : Mf} (hm : ∀ z, m z = 0) (a : Wd64) : ∀ n, leF m a n = 0#64
 | 0 => rfl
 | n + 1 => by
  rw [leF, le0 hm a n, hm]
  have e : bw 0 = 0#64 := by decide
  rw [e]
  simp
theorem cells0 : Cells (fun _ => 0#64) (initM gcP) := fun k hk => le0 (puts0 _ _ (rep0 400) _) _ 8
theorem permN {b3 PX RX LR : Ent} {D F M MP : St} : (((([PX, RX] ++ F) ++ ((M ++ D) ++ ([] ++ (LR :: MP)))) ++ [b3])).Perm (([b3] ++ D) ++ ([LR] ++ (([PX, RX] ++ F) ++ (M ++ MP)))) := by
 refine (List.perm_append_comm (l₁ := ([PX, RX] ++ F) ++ ((M ++ D) ++ ([] ++ (LR :: MP)))) (l₂ := [b3])).trans ?_
 rw [List.append_assoc [b3] D]
 refine List.Perm.append_left [b3] ?_
 show (([PX, RX] ++ F) ++ ((M ++ D) ++ (LR :: MP))).Perm (D ++ (LR :: (([PX, RX] ++ F) ++ (M ++ MP))))
 refine List.Perm.trans ?_ (List.perm_middle (a := LR) (l₁ := D) (l₂ := ([PX, RX] ++ F) ++ (M ++ MP))).symm
 refine List.Perm.trans (l₂ := LR :: (([PX, RX] ++ F) ++ ((M ++ D) ++ MP))) ?_ ?_
 ·rw [← List.append_assoc ([PX, RX] ++ F) (M ++ D) (LR :: MP), ← List.append_assoc ([PX, RX] ++ F) (M ++ D) MP]
  exact List.perm_middle
 refine List.Perm.cons LR ?_
 rw [List.append_assoc M D MP]
 refine List.Perm.trans ?_ (List.perm_append_comm_assoc ([PX, RX] ++ F) D (M ++ MP))
 refine List.Perm.append_left ([PX, RX] ++ F) ?_
 exact List.perm_append_comm_assoc M D MP
theorem steps_run {m : Mc} (hm : MOk gcP m) (n : Nat) (h0 : 0 ≤ m.c.steps) : 0 ≤ (runM realF n m).c.steps ∧ (runM realF n m).c.steps ≤ m.c.steps + n := by
 have h := run_ok (RF := realF) gc_ok gc_in.funs n hm
 omega
end Go.Proofs.YtpgbpdnmjeoeoaaGreat.G
