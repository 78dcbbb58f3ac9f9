/-
  TEXTS JOINED: BWk4, BWk5, BWk6, BWk7.
-/
import Derived.Test.YtpgbpdnmjeoeoaaGreatJd
set_option linter.unusedSimpArgs false
set_option linter.unusedVariables false
set_option linter.unusedSectionVars false
set_option linter.unnecessarySimpa false
namespace Go.Proofs.YtpgbpdnmjeoeoaaGreat.B
open Go Go.RowKit

def mStart2 (v1 : Int) : BM Unit :=
 mSetC (v1) (16777216)
set_option maxHeartbeats 4000000 in
theorem cStart2 (p N : Nat) (bd : Bd) (A : Option Addr) (c : Nat) (ok : BdOk N bd) (hN : N ≤ 90000) (F : St) (i0 g0 : Nat) (h0 : F[i0]? = some (Ent.box g0 87 [.v (.pointer (some ⟨p, 0, none⟩))])) (i1 g1 : Nat) (v1 : Int) (h1 : F[i1]? = some (Ent.box g1 3 [zi v1])) :
    ACalls Tryz.prog 81 [.v (.pointer (some ⟨g0, 0, none⟩)), .v (.pointer (some ⟨g1, 0, none⟩))] (F ++ BdE p bd A c) (BRF (mStart2 v1) bd p (N + 1) F) := by
 refine ACalls.intro Tryz.func81 rfl Tryz.ntmps81 nB rfl fun X w0 => ?_
 refine AW.region ?_
 refine Y1 (Yv.loadBox rfl ag_87 (i := i0) (appS (l := F) h0) eV rfl) ?_
 refine Y1 (Yv.loadBox rfl ag_3 (i := i1) (appS (l := F) h1) eV rfl) ?_
 refine AWL.callE rfl rfl (B rfl) rfl ce_82 (E rfl rfl) (evsC (E rfl rfl) (evsC (E rfl rfl) (evsC (E rfl rfl) evs0))) (F1 := F) (S1 := (BdE p bd A c)) rfl (cSetC p N bd A c ok (by omega) (v1) (16777216)) ?_
 rintro t4 S4 ⟨d1, bd1, A1, c1, e1, ok1, rfl, rfl⟩
 refine nl ?_
 refine retN .nil ?_
 exact ⟨rfl, _, _, _, e1, ok1, rfl⟩

def mAlloc1 : BM Unit :=
 mTail ((1 + 5)) []
set_option maxHeartbeats 4000000 in
theorem cAlloc1 (p N : Nat) (bd : Bd) (A : Option Addr) (c : Nat) (ok : BdOk N bd) (hN : N ≤ 90000) (F : St) (i0 g0 : Nat) (h0 : F[i0]? = some (Ent.box g0 87 [.v (.pointer (some ⟨p, 0, none⟩))])) (i1 g1 : Nat) (h1 : F[i1]? = some (Ent.box g1 3 [zi 1])) :
    ACalls Tryz.prog 90 [.v (.pointer (some ⟨g0, 0, none⟩)), .v (.pointer (some ⟨g1, 0, none⟩))] (F ++ BdE p bd A c) (BRF (mAlloc1 ) bd p (N + 1) F) := by
 refine ACalls.intro Tryz.func90 rfl Tryz.ntmps90 nB rfl fun X w0 => ?_
 refine AW.region ?_
 refine Y1 (Yv.loadBox rfl ag_87 (i := i0) (appS (l := F) h0) eV rfl) ?_
 refine Y1 (Yv.loadBox rfl ag_3 (i := i1) (appS (l := F) h1) eV rfl) ?_
 refine Y1 (Yv.addN_i64 rfl eV eV (fun hg => by omega)) ?_
 refine AWL.callE rfl rfl (B rfl) rfl ce_91 (E rfl rfl) (evsC (E rfl rfl) (evsC (E rfl rfl) (evsC (E rfl rfl) evs0))) (F1 := F) (S1 := (BdE p bd A c)) rfl ((cTail p N bd A c ok (by omega) ((1 + 5)) []).le (.cons .refl (.cons .refl (.cons nilSl (.refl))))) ?_
 rintro t5 S5 ⟨d1, bd1, A1, c1, e1, ok1, rfl, rfl⟩
 refine nl ?_
 refine retN .nil ?_
 exact ⟨rfl, _, _, _, e1, ok1, rfl⟩

def mMinor1 : BM Unit :=
 mTail ((1 + 3)) []
set_option maxHeartbeats 4000000 in
theorem cMinor1 (p N : Nat) (bd : Bd) (A : Option Addr) (c : Nat) (ok : BdOk N bd) (hN : N ≤ 90000) (F : St) (i0 g0 : Nat) (h0 : F[i0]? = some (Ent.box g0 87 [.v (.pointer (some ⟨p, 0, none⟩))])) (i1 g1 : Nat) (h1 : F[i1]? = some (Ent.box g1 3 [zi 1])) :
    ACalls Tryz.prog 94 [.v (.pointer (some ⟨g0, 0, none⟩)), .v (.pointer (some ⟨g1, 0, none⟩))] (F ++ BdE p bd A c) (BRF (mMinor1 ) bd p (N + 1) F) := by
 refine ACalls.intro Tryz.func94 rfl Tryz.ntmps94 nB rfl fun X w0 => ?_
 refine AW.region ?_
 refine Y1 (Yv.loadBox rfl ag_87 (i := i0) (appS (l := F) h0) eV rfl) ?_
 refine Y1 (Yv.loadBox rfl ag_3 (i := i1) (appS (l := F) h1) eV rfl) ?_
 refine Y1 (Yv.addN_i64 rfl eV eV (fun hg => by omega)) ?_
 refine AWL.callE rfl rfl (B rfl) rfl ce_91 (E rfl rfl) (evsC (E rfl rfl) (evsC (E rfl rfl) (evsC (E rfl rfl) evs0))) (F1 := F) (S1 := (BdE p bd A c)) rfl ((cTail p N bd A c ok (by omega) ((1 + 3)) []).le (.cons .refl (.cons .refl (.cons nilSl (.refl))))) ?_
 rintro t5 S5 ⟨d1, bd1, A1, c1, e1, ok1, rfl, rfl⟩
 refine nl ?_
 refine retN .nil ?_
 exact ⟨rfl, _, _, _, e1, ok1, rfl⟩

def mMajor1 (v0 : Int) : BM (Int × Int) :=
 bnd (mCell (320)) fun d1 =>
 rtn ((v0), (d1))
set_option maxHeartbeats 4000000 in
theorem cMajor1 (p N : Nat) (bd : Bd) (A : Option Addr) (c : Nat) (ok : BdOk N bd) (hN : N ≤ 90000) (F : St) (i0 g0 : Nat) (v0 : Int) (h0 : F[i0]? = some (Ent.box g0 3 [zi v0])) (i1 g1 : Nat) (h1 : F[i1]? = some (Ent.box g1 87 [.v (.pointer (some ⟨p, 0, none⟩))])) :
    ACalls Tryz.prog 97 [.v (.pointer (some ⟨g0, 0, none⟩)), .v (.pointer (some ⟨g1, 0, none⟩))] (F ++ BdE p bd A c) (BR2 (mMajor1 v0) bd p (N + 4) F) := by
 refine ACalls.intro Tryz.func97 rfl Tryz.ntmps97 nB rfl fun X w0 => ?_
 refine rs (Y1 (Yv.assign rfl eV) ?_)
 refine ya ?_
 refine AW.rseqH (HeldCs [(g0, 0, Value.int .i64 (v0)), (g1, 0, Value.pointer (some ⟨p, 0, none⟩))]) rfl (tells_cs (tcB i0 (appS (l := F) h0) rfl pinV (tcB i1 (appS (l := F) h1) rfl pinV (tc0)))) ?_
 refine T2 (i := 0) rfl (heldB 0 rfl ag_3 (E rfl rfl) rfl (fun _ _ => .v _)) ?_
 refine AWH.one (i := 1) (by kernel_rfl) rfl ?_
 refine Y1 (Yv.loadBox rfl ag_87 (i := i1) (appS (l := F) h1) eV rfl) ?_
 refine AWL.nil (kpH (tcB i0 (appS (l := F) h0) rfl pinV (tcB i1 (appS (l := F) h1) rfl pinV (tc0))) ?_)
 refine AWH.one (i := 2) (by kernel_rfl) rfl ?_
 refine AWL.callE rfl rfl (B rfl) rfl ce_87 (E rfl rfl) (evsC (E rfl rfl) (evsC (E rfl rfl) evs0)) (F1 := F) (S1 := (BdE p bd A c)) rfl (cCell p N bd A c ok (by omega) (320)) ?_
 rintro t6 S6 ⟨d1, bd1, A1, c1, e1, ok1, rfl, rfl⟩
 refine AWL.nil (kpH (tcB i0 (appS (l := F) h0) rfl pinV (tcB i1 (appS (l := F) h1) rfl pinV (tc0))) ?_)
 refine AWH.one (i := 3) (by kernel_rfl) rfl ?_
 refine Y1 (Yv.assign rfl eV) ?_
 refine AWL.nil (kpH (tcB i0 (appS (l := F) h0) rfl pinV (tcB i1 (appS (l := F) h1) rfl pinV (tc0))) ?_)
 refine AWH.one (i := 4) (by kernel_rfl) rfl ?_
 refine Y1 (Yv.assign rfl eV) ?_
 refine AWL.nil (kpH (tcB i0 (appS (l := F) h0) rfl pinV (tcB i1 (appS (l := F) h1) rfl pinV (tc0))) ?_)
 refine AWH.done (by kernel_rfl) ?_
 refine AW.ret (retI (.tmp rfl (.tmp rfl .nil)) ?_)
 exact ⟨_, _, _, _, _, rfl, (bq e1), ok1, rfl⟩

def mMajor2 (v1 : Int) : BM Unit :=
 bnd (mGet (v1) (0)) fun d1 =>
 bnd (mGet (d1) (0)) fun d2 =>
 bnd (mAnd (d2) ((-33))) fun d3 =>
 bnd (mSave (d1) (0) (d3)) fun _ =>
 mIncr (v1) (8)
set_option maxHeartbeats 4000000 in
theorem cMajor2 (p N : Nat) (bd : Bd) (A : Option Addr) (c : Nat) (ok : BdOk N bd) (hN : N ≤ 90000) (F : St) (i0 g0 : Nat) (h0 : F[i0]? = some (Ent.box g0 87 [.v (.pointer (some ⟨p, 0, none⟩))])) (i1 g1 : Nat) (v1 : Int) (h1 : F[i1]? = some (Ent.box g1 3 [zi v1])) :
    ACalls Tryz.prog 98 [.v (.pointer (some ⟨g0, 0, none⟩)), .v (.pointer (some ⟨g1, 0, none⟩))] (F ++ BdE p bd A c) (BRF (mMajor2 v1) bd p (N + 12) F) := by
 refine ACalls.intro Tryz.func98 rfl Tryz.ntmps98 nB rfl fun X w0 => ?_
 refine rs (Y1 (Yv.loadBox rfl ag_87 (i := i0) (appS (l := F) h0) eV rfl) ?_)
 refine Y1 (Yv.loadBox rfl ag_3 (i := i1) (appS (l := F) h1) eV rfl) ?_
 refine AWL.callE rfl rfl (B rfl) rfl ce_99 (E rfl rfl) (evsC (E rfl rfl) (evsC (E rfl rfl) (evsC (E rfl rfl) evs0))) (F1 := F) (S1 := (BdE p bd A c)) rfl (cGet p N bd A c ok (by omega) (v1) (0)) ?_
 rintro t5 S5 ⟨d1, bd1, A1, c1, e1, ok1, rfl, rfl⟩
 refine ya ?_
 refine AW.rseqH (HeldCs [(g0, 0, Value.pointer (some ⟨p, 0, none⟩)), (g1, 0, Value.int .i64 (v1))]) rfl (tells_cs (tcB i0 (appS (l := F) h0) rfl pinV (tcB i1 (appS (l := F) h1) rfl pinV (tc0)))) ?_
 refine T2 (i := 0) rfl (heldB 0 rfl ag_87 (E rfl rfl) rfl (fun _ _ => .v _)) ?_
 refine T2 (i := 1) rfl (heldAll (freeMove rfl (E rfl rfl))) ?_
 refine T2 (i := 2) rfl (heldB 0 rfl ag_87 (E rfl rfl) rfl (fun _ _ => .v _)) ?_
 refine T2 (i := 3) rfl (heldB 0 rfl ag_87 (E rfl rfl) rfl (fun _ _ => .v _)) ?_
 refine AWH.one (i := 4) (by kernel_rfl) rfl ?_
 refine ym ?_
 refine AWL.nil (kpH (tcB i0 (appS (l := F) h0) rfl pinV (tcB i1 (appS (l := F) h1) rfl pinV (tc0))) ?_)
 refine AWH.one (i := 5) (by kernel_rfl) rfl ?_
 refine AWL.callE rfl rfl (B rfl) rfl ce_99 (E rfl rfl) (evsC (E rfl rfl) (evsC (E rfl rfl) (evsC (E rfl rfl) evs0))) (F1 := F) (S1 := (BdE p bd1 A1 c1)) rfl (cGet p (N + 2) bd1 A1 c1 ok1 (by omega) (d1) (0)) ?_
 rintro t11 S11 ⟨d2, bd2, A2, c2, e2, ok2, rfl, rfl⟩
 refine AWL.nil (kpH (tcB i0 (appS (l := F) h0) rfl pinV (tcB i1 (appS (l := F) h1) rfl pinV (tc0))) ?_)
 refine AWH.one (i := 6) (by kernel_rfl) rfl ?_
 refine AWL.callE rfl rfl (B rfl) rfl ce_100 (E rfl rfl) (evsC (E rfl rfl) (evsC (E rfl rfl) (evsC (E rfl rfl) evs0))) (F1 := F) (S1 := (BdE p bd2 A2 c2)) rfl (cAnd p (N + 4) bd2 A2 c2 ok2 (by omega) (d2) ((-33))) ?_
 rintro t12 S12 ⟨d3, bd3, A3, c3, e3, ok3, rfl, rfl⟩
 refine AWL.nil (kpH (tcB i0 (appS (l := F) h0) rfl pinV (tcB i1 (appS (l := F) h1) rfl pinV (tc0))) ?_)
 refine AWH.one (i := 7) (by kernel_rfl) rfl ?_
 refine AWL.callE rfl rfl (B rfl) rfl ce_92 (E rfl rfl) (evsC (E rfl rfl) (evsC (E rfl rfl) (evsC (E rfl rfl) (evsC (E rfl rfl) evs0)))) (F1 := F) (S1 := (BdE p bd3 A3 c3)) rfl (cSave p (N + 8) bd3 A3 c3 ok3 (by omega) (d1) (0) (d3)) ?_
 rintro t13 S13 ⟨d4, bd4, A4, c4, e4, ok4, rfl, rfl⟩
 refine AWL.nil (kpH (tcB i0 (appS (l := F) h0) rfl pinV (tcB i1 (appS (l := F) h1) rfl pinV (tc0))) ?_)
 refine AWH.done (by kernel_rfl) ?_
 refine AW.region ?_
 refine Y1 (Yv.loadBox rfl ag_87 (i := i0) (appS (l := F) h0) eV rfl) ?_
 refine Y1 (Yv.loadBox rfl ag_3 (i := i1) (appS (l := F) h1) eV rfl) ?_
 refine AWL.callE rfl rfl (B rfl) rfl ce_79 (E rfl rfl) (evsC (E rfl rfl) (evsC (E rfl rfl) (evsC (E rfl rfl) evs0))) (F1 := F) (S1 := (BdE p bd4 A4 c4)) rfl (cIncr p (N + 9) bd4 A4 c4 ok4 (by omega) (v1) (8)) ?_
 rintro t16 S16 ⟨d5, bd5, A5, c5, e5, ok5, rfl, rfl⟩
 refine nl ?_
 refine retN .nil ?_
 exact ⟨rfl, _, _, _, (bq e1).trans ((bq e2).trans ((bq e3).trans ((bq e4).trans (e5)))), ok5, rfl⟩

def mMark11 : BM Unit :=
 mRetC (1)
set_option maxHeartbeats 4000000 in
theorem cMark11 (p N : Nat) (bd : Bd) (A : Option Addr) (c : Nat) (ok : BdOk N bd) (hN : N ≤ 90000) (F : St) (i0 g0 : Nat) (h0 : F[i0]? = some (Ent.box g0 87 [.v (.pointer (some ⟨p, 0, none⟩))])) :
    ACalls Tryz.prog 103 [.v (.pointer (some ⟨g0, 0, none⟩))] (F ++ BdE p bd A c) (BRF (mMark11 ) bd p (N + 3) F) := by
 refine ACalls.intro Tryz.func103 rfl Tryz.ntmps103 nB rfl fun X w0 => ?_
 refine AW.region ?_
 refine Y1 (Yv.loadBox rfl ag_87 (i := i0) (appS (l := F) h0) eV rfl) ?_
 refine AWL.callE rfl rfl (B rfl) rfl ce_34 (E rfl rfl) (evsC (E rfl rfl) (evsC (E rfl rfl) evs0)) (F1 := F) (S1 := (BdE p bd A c)) rfl (cRetC p N bd A c ok (by omega) (1)) ?_
 rintro t2 S2 ⟨d1, bd1, A1, c1, e1, ok1, rfl, rfl⟩
 refine nl ?_
 refine retN .nil ?_
 exact ⟨rfl, _, _, _, e1, ok1, rfl⟩

def mMark12 (v1 v2 : Int) : BM Unit :=
 bnd (mOpC (10) (v2) (32)) fun d1 =>
 bnd (mSave (v1) (0) (d1)) fun _ =>
 bnd (mCell (320)) fun d3 =>
 bnd (mSave (d3) (0) (v1)) fun _ =>
 bnd (mAddC (d3) (8)) fun d5 =>
 mSetCell (320) (d5)
set_option maxHeartbeats 4000000 in
theorem cMark12 (p N : Nat) (bd : Bd) (A : Option Addr) (c : Nat) (ok : BdOk N bd) (hN : N ≤ 90000) (F : St) (i0 g0 : Nat) (h0 : F[i0]? = some (Ent.box g0 87 [.v (.pointer (some ⟨p, 0, none⟩))])) (i1 g1 : Nat) (v1 : Int) (h1 : F[i1]? = some (Ent.box g1 3 [zi v1])) (i2 g2 : Nat) (v2 : Int) (h2 : F[i2]? = some (Ent.box g2 3 [zi v2])) :
    ACalls Tryz.prog 104 [.v (.pointer (some ⟨g0, 0, none⟩)), .v (.pointer (some ⟨g1, 0, none⟩)), .v (.pointer (some ⟨g2, 0, none⟩))] (F ++ BdE p bd A c) (BRF (mMark12 v1 v2) bd p (N + 17) F) := by
 refine ACalls.intro Tryz.func104 rfl Tryz.ntmps104 nB rfl fun X w0 => ?_
 refine AW.rseqH (HeldCs [(g0, 0, Value.pointer (some ⟨p, 0, none⟩)), (g1, 0, Value.int .i64 (v1)), (g2, 0, Value.int .i64 (v2))]) rfl (tells_cs (tcB i0 (appS (l := F) h0) rfl pinV (tcB i1 (appS (l := F) h1) rfl pinV (tcB i2 (appS (l := F) h2) rfl pinV (tc0))))) ?_
 refine T2 (i := 0) rfl (heldB 0 rfl ag_87 (E rfl rfl) rfl (fun _ _ => .v _)) ?_
 refine T2 (i := 1) rfl (heldB 1 rfl ag_3 (E rfl rfl) rfl (fun _ _ => .v _)) ?_
 refine T2 (i := 2) rfl (heldB 0 rfl ag_87 (E rfl rfl) rfl (fun _ _ => .v _)) ?_
 refine AWH.one (i := 3) (by kernel_rfl) rfl ?_
 refine Y1 (Yv.loadBox rfl ag_3 (i := i2) (appS (l := F) h2) eV rfl) ?_
 refine AWL.nil (kpH (tcB i0 (appS (l := F) h0) rfl pinV (tcB i1 (appS (l := F) h1) rfl pinV (tcB i2 (appS (l := F) h2) rfl pinV (tc0)))) ?_)
 refine AWH.one (i := 4) (by kernel_rfl) rfl ?_
 refine AWL.callE rfl rfl (B rfl) rfl ce_78 (E rfl rfl) (evsC (E rfl rfl) (evsC (E rfl rfl) (evsC (E rfl rfl) (evsC (E rfl rfl) evs0)))) (F1 := F) (S1 := (BdE p bd A c)) rfl (cOpC p N bd A c ok (by omega) (10) (v2) (32)) ?_
 rintro t8 S8 ⟨d1, bd1, A1, c1, e1, ok1, rfl, rfl⟩
 refine AWL.nil (kpH (tcB i0 (appS (l := F) h0) rfl pinV (tcB i1 (appS (l := F) h1) rfl pinV (tcB i2 (appS (l := F) h2) rfl pinV (tc0)))) ?_)
 refine AWH.one (i := 5) (by kernel_rfl) rfl ?_
 refine AWL.callE rfl rfl (B rfl) rfl ce_92 (E rfl rfl) (evsC (E rfl rfl) (evsC (E rfl rfl) (evsC (E rfl rfl) (evsC (E rfl rfl) evs0)))) (F1 := F) (S1 := (BdE p bd1 A1 c1)) rfl (cSave p (N + 4) bd1 A1 c1 ok1 (by omega) (v1) (0) (d1)) ?_
 rintro t9 S9 ⟨d2, bd2, A2, c2, e2, ok2, rfl, rfl⟩
 refine AWL.nil (kpH (tcB i0 (appS (l := F) h0) rfl pinV (tcB i1 (appS (l := F) h1) rfl pinV (tcB i2 (appS (l := F) h2) rfl pinV (tc0)))) ?_)
 refine AWH.done (by kernel_rfl) ?_
 refine rs (Y1 (Yv.loadBox rfl ag_87 (i := i0) (appS (l := F) h0) eV rfl) ?_)
 refine AWL.callE rfl rfl (B rfl) rfl ce_87 (E rfl rfl) (evsC (E rfl rfl) (evsC (E rfl rfl) evs0)) (F1 := F) (S1 := (BdE p bd2 A2 c2)) rfl (cCell p (N + 5) bd2 A2 c2 ok2 (by omega) (320)) ?_
 rintro t11 S11 ⟨d3, bd3, A3, c3, e3, ok3, rfl, rfl⟩
 refine ya ?_
 refine rs (Y1 (Yv.loadBox rfl ag_87 (i := i0) (appS (l := F) h0) eV rfl) ?_)
 refine ym ?_
 refine Y1 (Yv.loadBox rfl ag_3 (i := i1) (appS (l := F) h1) eV rfl) ?_
 refine AWL.callE rfl rfl (B rfl) rfl ce_92 (E rfl rfl) (evsC (E rfl rfl) (evsC (E rfl rfl) (evsC (E rfl rfl) (evsC (E rfl rfl) evs0)))) (F1 := F) (S1 := (BdE p bd3 A3 c3)) rfl (cSave p (N + 9) bd3 A3 c3 ok3 (by omega) (d3) (0) (v1)) ?_
 rintro t15 S15 ⟨d4, bd4, A4, c4, e4, ok4, rfl, rfl⟩
 refine nl ?_
 refine AW.regionH (HeldCs [(g0, 0, Value.pointer (some ⟨p, 0, none⟩)), (g1, 0, Value.int .i64 (v1)), (g2, 0, Value.int .i64 (v2))]) rfl (tells_cs (tcB i0 (appS (l := F) h0) rfl pinV (tcB i1 (appS (l := F) h1) rfl pinV (tcB i2 (appS (l := F) h2) rfl pinV (tc0))))) ?_
 refine T2 (i := 0) rfl (heldB 0 rfl ag_87 (E rfl rfl) rfl (fun _ _ => .v _)) ?_
 refine T2 (i := 1) rfl (heldB 0 rfl ag_87 (E rfl rfl) rfl (fun _ _ => .v _)) ?_
 refine AWH.one (i := 2) (by kernel_rfl) rfl ?_
 refine ym ?_
 refine AWL.nil (kpH (tcB i0 (appS (l := F) h0) rfl pinV (tcB i1 (appS (l := F) h1) rfl pinV (tcB i2 (appS (l := F) h2) rfl pinV (tc0)))) ?_)
 refine AWH.one (i := 3) (by kernel_rfl) rfl ?_
 refine AWL.callE rfl rfl (B rfl) rfl ce_93 (E rfl rfl) (evsC (E rfl rfl) (evsC (E rfl rfl) (evsC (E rfl rfl) evs0))) (F1 := F) (S1 := (BdE p bd4 A4 c4)) rfl (cAddC p (N + 10) bd4 A4 c4 ok4 (by omega) (d3) (8)) ?_
 rintro t19 S19 ⟨d5, bd5, A5, c5, e5, ok5, rfl, rfl⟩
 refine AWL.nil (kpH (tcB i0 (appS (l := F) h0) rfl pinV (tcB i1 (appS (l := F) h1) rfl pinV (tcB i2 (appS (l := F) h2) rfl pinV (tc0)))) ?_)
 refine AWH.one (i := 4) (by kernel_rfl) rfl ?_
 refine AWL.callE rfl rfl (B rfl) rfl ce_76 (E rfl rfl) (evsC (E rfl rfl) (evsC (E rfl rfl) (evsC (E rfl rfl) evs0))) (F1 := F) (S1 := (BdE p bd5 A5 c5)) rfl (cSetCell p (N + 14) bd5 A5 c5 ok5 (by omega) (320) (d5)) ?_
 rintro t20 S20 ⟨d6, bd6, A6, c6, e6, ok6, rfl, rfl⟩
 refine AWL.nil (kpH (tcB i0 (appS (l := F) h0) rfl pinV (tcB i1 (appS (l := F) h1) rfl pinV (tcB i2 (appS (l := F) h2) rfl pinV (tc0)))) ?_)
 refine AWH.done (by kernel_rfl) ?_
 refine retN .nil ?_
 exact ⟨rfl, _, _, _, (bq e1).trans ((bq e2).trans ((bq e3).trans ((bq e4).trans ((bq e5).trans (e6))))), ok6, rfl⟩

def mMark1 (v1 : Int) : BM Unit :=
 bnd (mGet (v1) (0)) fun d1 =>
 bnd (mShr (d1) (24)) fun d2 =>
 bnd (mThenC (1) (d2) (0) (mMark11 )) fun _ =>
 bnd (mAnd (d1) (32)) fun d4 =>
 mThenC (1) (d4) (0) (mMark12 (v1) (d1))
set_option maxHeartbeats 4000000 in
theorem cMark1_ (p N : Nat) (bd : Bd) (A : Option Addr) (c : Nat) (ok : BdOk N bd) (hN : N ≤ 80000) (F : St) (i0 g0 : Nat) (h0 : F[i0]? = some (Ent.box g0 87 [.v (.pointer (some ⟨p, 0, none⟩))])) (i1 g1 : Nat) (v1 : Int) (h1 : F[i1]? = some (Ent.box g1 3 [zi v1])) :
    ACalls Tryz.prog 101 [.v (.pointer (some ⟨g0, 0, none⟩)), .v (.pointer (some ⟨g1, 0, none⟩))] (F ++ BdE p bd A c) (fun t S => t = .tup [] ∧ ∃ b' A' c', mMark1 v1 bd = ((), b') ∧ BdOk (N + 40) b' ∧ (F ++ BdE p b' A' c').Sublist S) := by
 refine ACalls.intro Tryz.func101 rfl Tryz.ntmps101 nB rfl fun X w0 => ?_
 refine rs (Y1 (Yv.loadBox rfl ag_87 (i := i0) (appS (l := F) h0) eV rfl) ?_)
 refine Y1 (Yv.loadBox rfl ag_3 (i := i1) (appS (l := F) h1) eV rfl) ?_
 refine AWL.callE rfl rfl (B rfl) rfl ce_99 (E rfl rfl) (evsC (E rfl rfl) (evsC (E rfl rfl) (evsC (E rfl rfl) evs0))) (F1 := F) (S1 := (BdE p bd A c)) rfl (cGet p N bd A c ok (by omega) (v1) (0)) ?_
 rintro t5 S5 ⟨d1, bd1, A1, c1, e1, ok1, rfl, rfl⟩
 refine AWL.allocOp rfl rfl (B rfl) rfl zc_3 (fun b2 => ?_)
 refine AWL.perm (List.perm_append_singleton _ _).symm ?_
 refine AWL.storeBox (i := 0) rfl rfl rfl ag_3 rfl (E rfl rfl) (E rfl rfl) rfl rfl nB (nl ?_)
 refine AW.rseqH (HeldCs [(b2, 0, Value.int .i64 (d1)), (g0, 0, Value.pointer (some ⟨p, 0, none⟩)), (g1, 0, Value.int .i64 (v1))]) rfl (tells_cs (tcB 0 rfl rfl pinV (tcB (i0 + 1) (appS (l := F) h0) rfl pinV (tcB (i1 + 1) (appS (l := F) h1) rfl pinV (tc0))))) ?_
 refine T2 (i := 0) rfl (heldB 1 rfl ag_87 (E rfl rfl) rfl (fun _ _ => .v _)) ?_
 refine T2 (i := 1) rfl (heldB 1 rfl ag_87 (E rfl rfl) rfl (fun _ _ => .v _)) ?_
 refine T2 (i := 2) rfl (heldB 0 rfl ag_3 (E rfl rfl) rfl (fun _ _ => .v _)) ?_
 refine T2 (i := 4) rfl (heldAll (freeMk rfl evs0 rfl (evsC (E rfl rfl) evs0) rfl)) ?_
 refine AWH.one (i := 3) (by kernel_rfl) rfl ?_
 refine AWL.callE rfl rfl (B rfl) rfl ce_74 (E rfl rfl) (evsC (E rfl rfl) (evsC (E rfl rfl) (evsC (E rfl rfl) evs0))) (F1 := (Ent.box b2 3 [zi (d1)] :: F)) (S1 := (BdE p bd1 A1 c1)) rfl (cShr p (N + 2) bd1 A1 c1 ok1 (by omega) (d1) (24)) ?_
 rintro t9 S9 ⟨d2, bd2, A2, c2, e2, ok2, rfl, rfl⟩
 refine AWL.nil (kpH (tcB 0 rfl rfl pinV (tcB (i0 + 1) (appS (l := F) h0) rfl pinV (tcB (i1 + 1) (appS (l := F) h1) rfl pinV (tc0)))) ?_)
 refine AWH.one (i := 5) (by kernel_rfl) rfl ?_
 refine AWL.callAll rfl rfl (B rfl) rfl ce_102 (E rfl rfl) (evsC (E rfl rfl) (evsC (E rfl rfl) (evsC (E rfl rfl) (evsC (E rfl rfl) (evsC (E rfl rfl) evs0))))) (cThenC p (N + 6) 3 bd2 A2 c2 ok2 (by omega) (1) (d2) (0) 103 #[.pointer (some ⟨g0, 0, none⟩)] (Ent.box b2 3 [zi (d1)] :: F) (mMark11 ) ce_103 (fun bd9 A9 c9 ok9 => cMark11 p _ bd9 A9 c9 ok9 (by omega) (Ent.box b2 3 [zi (d1)] :: F) (i0 + 1) g0 h0)) ?_
 rintro t11 S11 ⟨rfl, bd3, A3, c3, e3, ok3, rfl⟩
 refine AWL.nil (kpH (tcB 0 rfl rfl pinV (tcB (i0 + 1) (appS (l := F) h0) rfl pinV (tcB (i1 + 1) (appS (l := F) h1) rfl pinV (tc0)))) ?_)
 refine AWH.done (by kernel_rfl) ?_
 refine AW.regionH (HeldCs [(b2, 0, Value.int .i64 (d1)), (g0, 0, Value.pointer (some ⟨p, 0, none⟩)), (g1, 0, Value.int .i64 (v1))]) rfl (tells_cs (tcB 0 rfl rfl pinV (tcB (i0 + 1) (appS (l := F) h0) rfl pinV (tcB (i1 + 1) (appS (l := F) h1) rfl pinV (tc0))))) ?_
 refine T2 (i := 0) rfl (heldB 1 rfl ag_87 (E rfl rfl) rfl (fun _ _ => .v _)) ?_
 refine T2 (i := 1) rfl (heldB 1 rfl ag_87 (E rfl rfl) rfl (fun _ _ => .v _)) ?_
 refine T2 (i := 2) rfl (heldB 0 rfl ag_3 (E rfl rfl) rfl (fun _ _ => .v _)) ?_
 refine T2 (i := 4) rfl (heldAll (freeMk rfl evs0 rfl (evsC (E rfl rfl) (evsC (E rfl rfl) (evsC (E rfl rfl) evs0))) rfl)) ?_
 refine AWH.one (i := 3) (by kernel_rfl) rfl ?_
 refine AWL.callE rfl rfl (B rfl) rfl ce_100 (E rfl rfl) (evsC (E rfl rfl) (evsC (E rfl rfl) (evsC (E rfl rfl) evs0))) (F1 := (Ent.box b2 3 [zi (d1)] :: F)) (S1 := (BdE p bd3 A3 c3)) rfl (cAnd p (N + 14) bd3 A3 c3 ok3 (by omega) (d1) (32)) ?_
 rintro t15 S15 ⟨d4, bd4, A4, c4, e4, ok4, rfl, rfl⟩
 refine AWL.nil (kpH (tcB 0 rfl rfl pinV (tcB (i0 + 1) (appS (l := F) h0) rfl pinV (tcB (i1 + 1) (appS (l := F) h1) rfl pinV (tc0)))) ?_)
 refine AWH.one (i := 5) (by kernel_rfl) rfl ?_
 refine AWL.callAll rfl rfl (B rfl) rfl ce_102 (E rfl rfl) (evsC (E rfl rfl) (evsC (E rfl rfl) (evsC (E rfl rfl) (evsC (E rfl rfl) (evsC (E rfl rfl) evs0))))) (cThenC p (N + 18) 17 bd4 A4 c4 ok4 (by omega) (1) (d4) (0) 104 #[.pointer (some ⟨g0, 0, none⟩), .pointer (some ⟨g1, 0, none⟩), .pointer (some ⟨b2, 0, none⟩)] (Ent.box b2 3 [zi (d1)] :: F) (mMark12 (v1) (d1)) ce_104 (fun bd9 A9 c9 ok9 => cMark12 p _ bd9 A9 c9 ok9 (by omega) (Ent.box b2 3 [zi (d1)] :: F) (i0 + 1) g0 h0 (i1 + 1) g1 (v1) h1 0 b2 (d1) rfl)) ?_
 rintro t17 S17 ⟨rfl, bd5, A5, c5, e5, ok5, rfl⟩
 refine AWL.nil (kpH (tcB 0 rfl rfl pinV (tcB (i0 + 1) (appS (l := F) h0) rfl pinV (tcB (i1 + 1) (appS (l := F) h1) rfl pinV (tc0)))) ?_)
 refine AWH.done (by kernel_rfl) ?_
 refine retN .nil ?_
 exact ⟨rfl, _, _, _, (bq e1).trans ((bq e2).trans ((bq e3).trans ((bq e4).trans (e5)))), ok5, List.sublist_cons_self _ _⟩

theorem cMark1 (p N : Nat) (bd : Bd) (A : Option Addr) (c : Nat) (ok : BdOk N bd) (hN : N ≤ 80000) (F : St) (i0 g0 : Nat) (h0 : F[i0]? = some (Ent.box g0 87 [.v (.pointer (some ⟨p, 0, none⟩))])) (i1 g1 : Nat) (v1 : Int) (h1 : F[i1]? = some (Ent.box g1 3 [zi v1])) : ACalls Tryz.prog 101 [.v (.pointer (some ⟨g0, 0, none⟩)), .v (.pointer (some ⟨g1, 0, none⟩))] (F ++ BdE p bd A c) (BRF (mMark1 v1) bd p (N + 40) F) := (cMark1_ p N bd A c ok hN F i0 g0 h0 i1 g1 v1 h1).less fun t S' h => by
    obtain ⟨rfl, b', A', c', h1, h2, h3⟩ := h
    exact ⟨_, h3, rfl, b', A', c', h1, h2, rfl⟩
def mCopied1 (v1 : Int) : BM Unit :=
 mRet (v1)
set_option maxHeartbeats 4000000 in
theorem cCopied1 (p N : Nat) (bd : Bd) (A : Option Addr) (c : Nat) (ok : BdOk N bd) (hN : N ≤ 90000) (F : St) (i0 g0 : Nat) (h0 : F[i0]? = some (Ent.box g0 87 [.v (.pointer (some ⟨p, 0, none⟩))])) (i1 g1 : Nat) (v1 : Int) (h1 : F[i1]? = some (Ent.box g1 3 [zi v1])) :
    ACalls Tryz.prog 108 [.v (.pointer (some ⟨g0, 0, none⟩)), .v (.pointer (some ⟨g1, 0, none⟩))] (F ++ BdE p bd A c) (BRF (mCopied1 v1) bd p (N + 1) F) := by
 refine ACalls.intro Tryz.func108 rfl Tryz.ntmps108 nB rfl fun X w0 => ?_
 refine AW.region ?_
 refine Y1 (Yv.loadBox rfl ag_87 (i := i0) (appS (l := F) h0) eV rfl) ?_
 refine Y1 (Yv.loadBox rfl ag_3 (i := i1) (appS (l := F) h1) eV rfl) ?_
 refine AWL.callE rfl rfl (B rfl) rfl ce_52 (E rfl rfl) (evsC (E rfl rfl) (evsC (E rfl rfl) evs0)) (F1 := F) (S1 := (BdE p bd A c)) rfl (cRet p N bd A c ok (by omega) (v1)) ?_
 rintro t4 S4 ⟨d1, bd1, A1, c1, e1, ok1, rfl, rfl⟩
 refine nl ?_
 refine retN .nil ?_
 exact ⟨rfl, _, _, _, e1, ok1, rfl⟩

def mCopied2 : BM Unit :=
 mTail ((1 + 5)) []
set_option maxHeartbeats 4000000 in
theorem cCopied2 (p N : Nat) (bd : Bd) (A : Option Addr) (c : Nat) (ok : BdOk N bd) (hN : N ≤ 90000) (F : St) (i0 g0 : Nat) (h0 : F[i0]? = some (Ent.box g0 87 [.v (.pointer (some ⟨p, 0, none⟩))])) (i1 g1 : Nat) (h1 : F[i1]? = some (Ent.box g1 3 [zi 1])) :
    ACalls Tryz.prog 109 [.v (.pointer (some ⟨g0, 0, none⟩)), .v (.pointer (some ⟨g1, 0, none⟩))] (F ++ BdE p bd A c) (BRF (mCopied2 ) bd p (N + 1) F) := by
 refine ACalls.intro Tryz.func109 rfl Tryz.ntmps109 nB rfl fun X w0 => ?_
 refine AW.region ?_
 refine Y1 (Yv.loadBox rfl ag_87 (i := i0) (appS (l := F) h0) eV rfl) ?_
 refine Y1 (Yv.loadBox rfl ag_3 (i := i1) (appS (l := F) h1) eV rfl) ?_
 refine Y1 (Yv.addN_i64 rfl eV eV (fun hg => by omega)) ?_
 refine AWL.callE rfl rfl (B rfl) rfl ce_91 (E rfl rfl) (evsC (E rfl rfl) (evsC (E rfl rfl) (evsC (E rfl rfl) evs0))) (F1 := F) (S1 := (BdE p bd A c)) rfl ((cTail p N bd A c ok (by omega) ((1 + 5)) []).le (.cons .refl (.cons .refl (.cons nilSl (.refl))))) ?_
 rintro t5 S5 ⟨d1, bd1, A1, c1, e1, ok1, rfl, rfl⟩
 refine nl ?_
 refine retN .nil ?_
 exact ⟨rfl, _, _, _, e1, ok1, rfl⟩

def mCopied3 (v0 v1 : Int) : BM (Int × Int) :=
 rtn ((v0), (v1))
set_option maxHeartbeats 4000000 in
theorem cCopied3 (p N : Nat) (bd : Bd) (A : Option Addr) (c : Nat) (ok : BdOk N bd) (hN : N ≤ 90000) (F : St) (i0 g0 : Nat) (v0 : Int) (h0 : F[i0]? = some (Ent.box g0 3 [zi v0])) (i1 g1 : Nat) (v1 : Int) (h1 : F[i1]? = some (Ent.box g1 3 [zi v1])) :
    ACalls Tryz.prog 110 [.v (.pointer (some ⟨g0, 0, none⟩)), .v (.pointer (some ⟨g1, 0, none⟩))] (F ++ BdE p bd A c) (BR2 (mCopied3 v0 v1) bd p N F) := by
 refine ACalls.intro Tryz.func110 rfl Tryz.ntmps110 nB rfl fun X w0 => ?_
 refine rs (Y1 (Yv.assign rfl eV) ?_)
 refine ya ?_
 refine AW.rseqH (HeldCs [(g0, 0, Value.int .i64 (v0)), (g1, 0, Value.int .i64 (v1))]) rfl (tells_cs (tcB i0 (appS (l := F) h0) rfl pinV (tcB i1 (appS (l := F) h1) rfl pinV (tc0)))) ?_
 refine T2 (i := 0) rfl (heldB 0 rfl ag_3 (E rfl rfl) rfl (fun _ _ => .v _)) ?_
 refine T2 (i := 1) rfl (heldB 1 rfl ag_3 (E rfl rfl) rfl (fun _ _ => .v _)) ?_
 refine AWH.one (i := 2) (by kernel_rfl) rfl ?_
 refine Y1 (Yv.assign rfl eV) ?_
 refine AWL.nil (kpH (tcB i0 (appS (l := F) h0) rfl pinV (tcB i1 (appS (l := F) h1) rfl pinV (tc0))) ?_)
 refine AWH.one (i := 3) (by kernel_rfl) rfl ?_
 refine Y1 (Yv.assign rfl eV) ?_
 refine AWL.nil (kpH (tcB i0 (appS (l := F) h0) rfl pinV (tcB i1 (appS (l := F) h1) rfl pinV (tc0))) ?_)
 refine AWH.done (by kernel_rfl) ?_
 refine AW.ret (retI (.tmp rfl (.tmp rfl .nil)) ?_)
 exact ⟨_, _, _, _, _, rfl, rfl, ok, rfl⟩

def mCopied4 (v1 v2 v3 : Int) : BM Unit :=
 bnd (mAdd (v1) (v2)) fun d1 =>
 bnd (mAdd (v3) (v2)) fun d2 =>
 bnd (mGet (d2) (0)) fun d3 =>
 bnd (mSave (d1) (0) (d3)) fun _ =>
 mIncr (v2) (8)
set_option maxHeartbeats 4000000 in
theorem cCopied4 (p N : Nat) (bd : Bd) (A : Option Addr) (c : Nat) (ok : BdOk N bd) (hN : N ≤ 90000) (F : St) (i0 g0 : Nat) (h0 : F[i0]? = some (Ent.box g0 87 [.v (.pointer (some ⟨p, 0, none⟩))])) (i1 g1 : Nat) (v1 : Int) (h1 : F[i1]? = some (Ent.box g1 3 [zi v1])) (i2 g2 : Nat) (v2 : Int) (h2 : F[i2]? = some (Ent.box g2 3 [zi v2])) (i3 g3 : Nat) (v3 : Int) (h3 : F[i3]? = some (Ent.box g3 3 [zi v3])) :
    ACalls Tryz.prog 111 [.v (.pointer (some ⟨g0, 0, none⟩)), .v (.pointer (some ⟨g1, 0, none⟩)), .v (.pointer (some ⟨g2, 0, none⟩)), .v (.pointer (some ⟨g3, 0, none⟩))] (F ++ BdE p bd A c) (BRF (mCopied4 v1 v2 v3) bd p (N + 10) F) := by
 refine ACalls.intro Tryz.func111 rfl Tryz.ntmps111 nB rfl fun X w0 => ?_
 refine AW.rseqH (HeldCs [(g0, 0, Value.pointer (some ⟨p, 0, none⟩)), (g1, 0, Value.int .i64 (v1)), (g2, 0, Value.int .i64 (v2)), (g3, 0, Value.int .i64 (v3))]) rfl (tells_cs (tcB i0 (appS (l := F) h0) rfl pinV (tcB i1 (appS (l := F) h1) rfl pinV (tcB i2 (appS (l := F) h2) rfl pinV (tcB i3 (appS (l := F) h3) rfl pinV (tc0)))))) ?_
 refine T2 (i := 0) rfl (heldB 0 rfl ag_87 (E rfl rfl) rfl (fun _ _ => .v _)) ?_
 refine T2 (i := 1) rfl (heldB 0 rfl ag_87 (E rfl rfl) rfl (fun _ _ => .v _)) ?_
 refine T2 (i := 2) rfl (heldB 1 rfl ag_3 (E rfl rfl) rfl (fun _ _ => .v _)) ?_
 refine T2 (i := 3) rfl (heldB 2 rfl ag_3 (E rfl rfl) rfl (fun _ _ => .v _)) ?_
 refine T2 (i := 5) rfl (heldB 0 rfl ag_87 (E rfl rfl) rfl (fun _ _ => .v _)) ?_
 refine T2 (i := 6) rfl (heldB 0 rfl ag_87 (E rfl rfl) rfl (fun _ _ => .v _)) ?_
 refine T2 (i := 7) rfl (heldB 3 rfl ag_3 (E rfl rfl) rfl (fun _ _ => .v _)) ?_
 refine T2 (i := 8) rfl (heldB 2 rfl ag_3 (E rfl rfl) rfl (fun _ _ => .v _)) ?_
 refine AWH.one (i := 4) (by kernel_rfl) rfl ?_
 refine AWL.callE rfl rfl (B rfl) rfl ce_83 (E rfl rfl) (evsC (E rfl rfl) (evsC (E rfl rfl) (evsC (E rfl rfl) evs0))) (F1 := F) (S1 := (BdE p bd A c)) rfl (cAdd p N bd A c ok (by omega) (v1) (v2)) ?_
 rintro t8 S8 ⟨d1, bd1, A1, c1, e1, ok1, rfl, rfl⟩
 refine AWL.nil (kpH (tcB i0 (appS (l := F) h0) rfl pinV (tcB i1 (appS (l := F) h1) rfl pinV (tcB i2 (appS (l := F) h2) rfl pinV (tcB i3 (appS (l := F) h3) rfl pinV (tc0))))) ?_)
 refine AWH.one (i := 9) (by kernel_rfl) rfl ?_
 refine AWL.callE rfl rfl (B rfl) rfl ce_83 (E rfl rfl) (evsC (E rfl rfl) (evsC (E rfl rfl) (evsC (E rfl rfl) evs0))) (F1 := F) (S1 := (BdE p bd1 A1 c1)) rfl (cAdd p (N + 2) bd1 A1 c1 ok1 (by omega) (v3) (v2)) ?_
 rintro t13 S13 ⟨d2, bd2, A2, c2, e2, ok2, rfl, rfl⟩
 refine AWL.nil (kpH (tcB i0 (appS (l := F) h0) rfl pinV (tcB i1 (appS (l := F) h1) rfl pinV (tcB i2 (appS (l := F) h2) rfl pinV (tcB i3 (appS (l := F) h3) rfl pinV (tc0))))) ?_)
 refine AWH.one (i := 10) (by kernel_rfl) rfl ?_
 refine AWL.callE rfl rfl (B rfl) rfl ce_99 (E rfl rfl) (evsC (E rfl rfl) (evsC (E rfl rfl) (evsC (E rfl rfl) evs0))) (F1 := F) (S1 := (BdE p bd2 A2 c2)) rfl (cGet p (N + 4) bd2 A2 c2 ok2 (by omega) (d2) (0)) ?_
 rintro t14 S14 ⟨d3, bd3, A3, c3, e3, ok3, rfl, rfl⟩
 refine AWL.nil (kpH (tcB i0 (appS (l := F) h0) rfl pinV (tcB i1 (appS (l := F) h1) rfl pinV (tcB i2 (appS (l := F) h2) rfl pinV (tcB i3 (appS (l := F) h3) rfl pinV (tc0))))) ?_)
 refine AWH.one (i := 11) (by kernel_rfl) rfl ?_
 refine AWL.callE rfl rfl (B rfl) rfl ce_92 (E rfl rfl) (evsC (E rfl rfl) (evsC (E rfl rfl) (evsC (E rfl rfl) (evsC (E rfl rfl) evs0)))) (F1 := F) (S1 := (BdE p bd3 A3 c3)) rfl (cSave p (N + 6) bd3 A3 c3 ok3 (by omega) (d1) (0) (d3)) ?_
 rintro t15 S15 ⟨d4, bd4, A4, c4, e4, ok4, rfl, rfl⟩
 refine AWL.nil (kpH (tcB i0 (appS (l := F) h0) rfl pinV (tcB i1 (appS (l := F) h1) rfl pinV (tcB i2 (appS (l := F) h2) rfl pinV (tcB i3 (appS (l := F) h3) rfl pinV (tc0))))) ?_)
 refine AWH.done (by kernel_rfl) ?_
 refine AW.region ?_
 refine Y1 (Yv.loadBox rfl ag_87 (i := i0) (appS (l := F) h0) eV rfl) ?_
 refine Y1 (Yv.loadBox rfl ag_3 (i := i2) (appS (l := F) h2) eV rfl) ?_
 refine AWL.callE rfl rfl (B rfl) rfl ce_79 (E rfl rfl) (evsC (E rfl rfl) (evsC (E rfl rfl) (evsC (E rfl rfl) evs0))) (F1 := F) (S1 := (BdE p bd4 A4 c4)) rfl (cIncr p (N + 7) bd4 A4 c4 ok4 (by omega) (v2) (8)) ?_
 rintro t18 S18 ⟨d5, bd5, A5, c5, e5, ok5, rfl, rfl⟩
 refine nl ?_
 refine retN .nil ?_
 exact ⟨rfl, _, _, _, (bq e1).trans ((bq e2).trans ((bq e3).trans ((bq e4).trans (e5)))), ok5, rfl⟩

def mForward1 (v1 : Int) : BM Unit :=
 mRet (v1)
set_option maxHeartbeats 4000000 in
theorem cForward1 (p N : Nat) (bd : Bd) (A : Option Addr) (c : Nat) (ok : BdOk N bd) (hN : N ≤ 90000) (F : St) (i0 g0 : Nat) (h0 : F[i0]? = some (Ent.box g0 87 [.v (.pointer (some ⟨p, 0, none⟩))])) (i1 g1 : Nat) (v1 : Int) (h1 : F[i1]? = some (Ent.box g1 3 [zi v1])) :
    ACalls Tryz.prog 112 [.v (.pointer (some ⟨g0, 0, none⟩)), .v (.pointer (some ⟨g1, 0, none⟩))] (F ++ BdE p bd A c) (BRF (mForward1 v1) bd p (N + 1) F) := by
 refine ACalls.intro Tryz.func112 rfl Tryz.ntmps112 nB rfl fun X w0 => ?_
 refine AW.region ?_
 refine Y1 (Yv.loadBox rfl ag_87 (i := i0) (appS (l := F) h0) eV rfl) ?_
 refine Y1 (Yv.loadBox rfl ag_3 (i := i1) (appS (l := F) h1) eV rfl) ?_
 refine AWL.callE rfl rfl (B rfl) rfl ce_52 (E rfl rfl) (evsC (E rfl rfl) (evsC (E rfl rfl) evs0)) (F1 := F) (S1 := (BdE p bd A c)) rfl (cRet p N bd A c ok (by omega) (v1)) ?_
 rintro t4 S4 ⟨d1, bd1, A1, c1, e1, ok1, rfl, rfl⟩
 refine nl ?_
 refine retN .nil ?_
 exact ⟨rfl, _, _, _, e1, ok1, rfl⟩

def mForward2 (v2 : Int) : BM Unit :=
 mTail ((1 + 7)) [v2]
set_option maxHeartbeats 4000000 in
theorem cForward2 (p N : Nat) (bd : Bd) (A : Option Addr) (c : Nat) (ok : BdOk N bd) (hN : N ≤ 90000) (F : St) (i0 g0 : Nat) (h0 : F[i0]? = some (Ent.box g0 87 [.v (.pointer (some ⟨p, 0, none⟩))])) (i1 g1 : Nat) (h1 : F[i1]? = some (Ent.box g1 3 [zi 1])) (i2 g2 : Nat) (v2 : Int) (h2 : F[i2]? = some (Ent.box g2 3 [zi v2])) :
    ACalls Tryz.prog 113 [.v (.pointer (some ⟨g0, 0, none⟩)), .v (.pointer (some ⟨g1, 0, none⟩)), .v (.pointer (some ⟨g2, 0, none⟩))] (F ++ BdE p bd A c) (BRF (mForward2 v2) bd p (N + 1) F) := by
 refine ACalls.intro Tryz.func113 rfl Tryz.ntmps113 nB rfl fun X w0 => ?_
 refine AW.region ?_
 refine Y1 (Yv.loadBox rfl ag_87 (i := i0) (appS (l := F) h0) eV rfl) ?_
 refine Y1 (Yv.loadBox rfl ag_3 (i := i1) (appS (l := F) h1) eV rfl) ?_
 refine Y1 (Yv.addN_i64 rfl eV eV (fun hg => by omega)) ?_
 refine Y1 (Yv.loadBox rfl ag_3 (i := i2) (appS (l := F) h2) eV rfl) ?_
 refine AWL.buildSlice1 rfl rfl (B rfl) rfl el_35 rfl (evsC (E rfl rfl) evs0) nB rfl rfl ?_
 refine AWL.callE rfl rfl (B rfl) rfl ce_91 (E rfl rfl) (evsC (E rfl rfl) (evsC (E rfl rfl) (evsC (E rfl rfl) evs0))) (F1 := F) (S1 := (BdE p bd A c)) rfl (cTail p N bd A c ok (by omega) ((1 + 7)) [v2]) ?_
 rintro t8 S8 ⟨d1, bd1, A1, c1, e1, ok1, rfl, rfl⟩
 refine nl ?_
 refine retN .nil ?_
 exact ⟨rfl, _, _, _, e1, ok1, rfl⟩

def mForward3 (v2 : Int) : BM Unit :=
 mTail ((1 + 7)) [v2]
set_option maxHeartbeats 4000000 in
theorem cForward3 (p N : Nat) (bd : Bd) (A : Option Addr) (c : Nat) (ok : BdOk N bd) (hN : N ≤ 90000) (F : St) (i0 g0 : Nat) (h0 : F[i0]? = some (Ent.box g0 87 [.v (.pointer (some ⟨p, 0, none⟩))])) (i1 g1 : Nat) (h1 : F[i1]? = some (Ent.box g1 3 [zi 1])) (i2 g2 : Nat) (v2 : Int) (h2 : F[i2]? = some (Ent.box g2 3 [zi v2])) :
    ACalls Tryz.prog 114 [.v (.pointer (some ⟨g0, 0, none⟩)), .v (.pointer (some ⟨g1, 0, none⟩)), .v (.pointer (some ⟨g2, 0, none⟩))] (F ++ BdE p bd A c) (BRF (mForward3 v2) bd p (N + 1) F) := by
 refine ACalls.intro Tryz.func114 rfl Tryz.ntmps114 nB rfl fun X w0 => ?_
 refine AW.region ?_
 refine Y1 (Yv.loadBox rfl ag_87 (i := i0) (appS (l := F) h0) eV rfl) ?_
 refine Y1 (Yv.loadBox rfl ag_3 (i := i1) (appS (l := F) h1) eV rfl) ?_
 refine Y1 (Yv.addN_i64 rfl eV eV (fun hg => by omega)) ?_
 refine Y1 (Yv.loadBox rfl ag_3 (i := i2) (appS (l := F) h2) eV rfl) ?_
 refine AWL.buildSlice1 rfl rfl (B rfl) rfl el_35 rfl (evsC (E rfl rfl) evs0) nB rfl rfl ?_
 refine AWL.callE rfl rfl (B rfl) rfl ce_91 (E rfl rfl) (evsC (E rfl rfl) (evsC (E rfl rfl) (evsC (E rfl rfl) evs0))) (F1 := F) (S1 := (BdE p bd A c)) rfl (cTail p N bd A c ok (by omega) ((1 + 7)) [v2]) ?_
 rintro t8 S8 ⟨d1, bd1, A1, c1, e1, ok1, rfl, rfl⟩
 refine nl ?_
 refine retN .nil ?_
 exact ⟨rfl, _, _, _, e1, ok1, rfl⟩

def mScan1 (v0 v1 : Int) : BM (Int × Int) :=
 rtn ((v0), (v1))
set_option maxHeartbeats 4000000 in
theorem cScan1 (p N : Nat) (bd : Bd) (A : Option Addr) (c : Nat) (ok : BdOk N bd) (hN : N ≤ 90000) (F : St) (i0 g0 : Nat) (v0 : Int) (h0 : F[i0]? = some (Ent.box g0 3 [zi v0])) (i1 g1 : Nat) (v1 : Int) (h1 : F[i1]? = some (Ent.box g1 3 [zi v1])) :
    ACalls Tryz.prog 115 [.v (.pointer (some ⟨g0, 0, none⟩)), .v (.pointer (some ⟨g1, 0, none⟩))] (F ++ BdE p bd A c) (BR2 (mScan1 v0 v1) bd p N F) := by
 refine ACalls.intro Tryz.func115 rfl Tryz.ntmps115 nB rfl fun X w0 => ?_
 refine rs (Y1 (Yv.assign rfl eV) ?_)
 refine ya ?_
 refine AW.rseqH (HeldCs [(g0, 0, Value.int .i64 (v0)), (g1, 0, Value.int .i64 (v1))]) rfl (tells_cs (tcB i0 (appS (l := F) h0) rfl pinV (tcB i1 (appS (l := F) h1) rfl pinV (tc0)))) ?_
 refine T2 (i := 0) rfl (heldB 0 rfl ag_3 (E rfl rfl) rfl (fun _ _ => .v _)) ?_
 refine T2 (i := 1) rfl (heldB 1 rfl ag_3 (E rfl rfl) rfl (fun _ _ => .v _)) ?_
 refine AWH.one (i := 2) (by kernel_rfl) rfl ?_
 refine Y1 (Yv.assign rfl eV) ?_
 refine AWL.nil (kpH (tcB i0 (appS (l := F) h0) rfl pinV (tcB i1 (appS (l := F) h1) rfl pinV (tc0))) ?_)
 refine AWH.one (i := 3) (by kernel_rfl) rfl ?_
 refine Y1 (Yv.assign rfl eV) ?_
 refine AWL.nil (kpH (tcB i0 (appS (l := F) h0) rfl pinV (tcB i1 (appS (l := F) h1) rfl pinV (tc0))) ?_)
 refine AWH.done (by kernel_rfl) ?_
 refine AW.ret (retI (.tmp rfl (.tmp rfl .nil)) ?_)
 exact ⟨_, _, _, _, _, rfl, rfl, ok, rfl⟩

def mScan2 (v1 : Int) : BM Unit :=
 bnd (mGet (v1) (0)) fun d1 =>
 bnd (mCall ((1 + 8)) [d1]) fun d2 =>
 bnd (mSave (v1) (0) (d2)) fun _ =>
 mIncr (v1) (8)
set_option maxHeartbeats 4000000 in
theorem cScan2 (p N : Nat) (bd : Bd) (A : Option Addr) (c : Nat) (ok : BdOk N bd) (hN : N ≤ 90000) (F : St) (i0 g0 : Nat) (h0 : F[i0]? = some (Ent.box g0 87 [.v (.pointer (some ⟨p, 0, none⟩))])) (i1 g1 : Nat) (v1 : Int) (h1 : F[i1]? = some (Ent.box g1 3 [zi v1])) (i2 g2 : Nat) (h2 : F[i2]? = some (Ent.box g2 3 [zi 1])) :
    ACalls Tryz.prog 116 [.v (.pointer (some ⟨g0, 0, none⟩)), .v (.pointer (some ⟨g1, 0, none⟩)), .v (.pointer (some ⟨g2, 0, none⟩))] (F ++ BdE p bd A c) (BRF (mScan2 v1) bd p (N + 8) F) := by
 refine ACalls.intro Tryz.func116 rfl Tryz.ntmps116 nB rfl fun X w0 => ?_
 refine AW.rseqH (HeldCs [(g0, 0, Value.pointer (some ⟨p, 0, none⟩)), (g1, 0, Value.int .i64 (v1)), (g2, 0, Value.int .i64 (1))]) rfl (tells_cs (tcB i0 (appS (l := F) h0) rfl pinV (tcB i1 (appS (l := F) h1) rfl pinV (tcB i2 (appS (l := F) h2) rfl pinV (tc0))))) ?_
 refine T2 (i := 0) rfl (heldB 0 rfl ag_87 (E rfl rfl) rfl (fun _ _ => .v _)) ?_
 refine T2 (i := 1) rfl (heldB 1 rfl ag_3 (E rfl rfl) rfl (fun _ _ => .v _)) ?_
 refine T2 (i := 2) rfl (heldB 0 rfl ag_87 (E rfl rfl) rfl (fun _ _ => .v _)) ?_
 refine T2 (i := 3) rfl (heldB 2 rfl ag_3 (E rfl rfl) rfl (fun _ _ => .v _)) ?_
 refine T2 (i := 4) rfl (heldAll (freeAddI rfl (E rfl rfl) (E rfl rfl) (by first | decide | omega))) ?_
 refine T2 (i := 5) rfl (heldB 0 rfl ag_87 (E rfl rfl) rfl (fun _ _ => .v _)) ?_
 refine AWH.one (i := 6) (by kernel_rfl) rfl ?_
 refine Y1 (Yv.loadBox rfl ag_3 (i := i1) (appS (l := F) h1) eV rfl) ?_
 refine AWL.nil (kpH (tcB i0 (appS (l := F) h0) rfl pinV (tcB i1 (appS (l := F) h1) rfl pinV (tcB i2 (appS (l := F) h2) rfl pinV (tc0)))) ?_)
 refine AWH.one (i := 7) (by kernel_rfl) rfl ?_
 refine AWL.callE rfl rfl (B rfl) rfl ce_99 (E rfl rfl) (evsC (E rfl rfl) (evsC (E rfl rfl) (evsC (E rfl rfl) evs0))) (F1 := F) (S1 := (BdE p bd A c)) rfl (cGet p N bd A c ok (by omega) (v1) (0)) ?_
 rintro t10 S10 ⟨d1, bd1, A1, c1, e1, ok1, rfl, rfl⟩
 refine AWL.nil (kpH (tcB i0 (appS (l := F) h0) rfl pinV (tcB i1 (appS (l := F) h1) rfl pinV (tcB i2 (appS (l := F) h2) rfl pinV (tc0)))) ?_)
 refine AWH.one (i := 8) (by kernel_rfl) rfl ?_
 refine AWL.buildSlice1 rfl rfl (B rfl) rfl el_35 rfl (evsC (E rfl rfl) evs0) nB rfl rfl ?_
 refine AWL.nil (kpH (tcB i0 (appS (l := F) h0) rfl pinV (tcB i1 (appS (l := F) h1) rfl pinV (tcB i2 (appS (l := F) h2) rfl pinV (tc0)))) ?_)
 refine AWH.one (i := 9) (by kernel_rfl) rfl ?_
 refine AWL.callE rfl rfl (B rfl) rfl ce_33 (E rfl rfl) (evsC (E rfl rfl) (evsC (E rfl rfl) (evsC (E rfl rfl) evs0))) (F1 := F) (S1 := (BdE p bd1 A1 c1)) rfl (cCall p (N + 2) bd1 A1 c1 ok1 (by omega) ((1 + 8)) [d1]) ?_
 rintro t12 S12 ⟨d2, bd2, A2, c2, e2, ok2, rfl, rfl⟩
 refine AWL.nil (kpH (tcB i0 (appS (l := F) h0) rfl pinV (tcB i1 (appS (l := F) h1) rfl pinV (tcB i2 (appS (l := F) h2) rfl pinV (tc0)))) ?_)
 refine AWH.one (i := 10) (by kernel_rfl) rfl ?_
 refine AWL.callE rfl rfl (B rfl) rfl ce_92 (E rfl rfl) (evsC (E rfl rfl) (evsC (E rfl rfl) (evsC (E rfl rfl) (evsC (E rfl rfl) evs0)))) (F1 := F) (S1 := (BdE p bd2 A2 c2)) rfl (cSave p (N + 4) bd2 A2 c2 ok2 (by omega) (v1) (0) (d2)) ?_
 rintro t13 S13 ⟨d3, bd3, A3, c3, e3, ok3, rfl, rfl⟩
 refine AWL.nil (kpH (tcB i0 (appS (l := F) h0) rfl pinV (tcB i1 (appS (l := F) h1) rfl pinV (tcB i2 (appS (l := F) h2) rfl pinV (tc0)))) ?_)
 refine AWH.done (by kernel_rfl) ?_
 refine AW.region ?_
 refine Y1 (Yv.loadBox rfl ag_87 (i := i0) (appS (l := F) h0) eV rfl) ?_
 refine Y1 (Yv.loadBox rfl ag_3 (i := i1) (appS (l := F) h1) eV rfl) ?_
 refine AWL.callE rfl rfl (B rfl) rfl ce_79 (E rfl rfl) (evsC (E rfl rfl) (evsC (E rfl rfl) (evsC (E rfl rfl) evs0))) (F1 := F) (S1 := (BdE p bd3 A3 c3)) rfl (cIncr p (N + 5) bd3 A3 c3 ok3 (by omega) (v1) (8)) ?_
 rintro t16 S16 ⟨d4, bd4, A4, c4, e4, ok4, rfl, rfl⟩
 refine nl ?_
 refine retN .nil ?_
 exact ⟨rfl, _, _, _, (bq e1).trans ((bq e2).trans ((bq e3).trans (e4))), ok4, rfl⟩

def mCollect1 (v0 : Int) : BM (Int × Int) :=
 bnd (mCell (0)) fun d1 =>
 rtn ((v0), (d1))
set_option maxHeartbeats 4000000 in
theorem cCollect1 (p N : Nat) (bd : Bd) (A : Option Addr) (c : Nat) (ok : BdOk N bd) (hN : N ≤ 90000) (F : St) (i0 g0 : Nat) (v0 : Int) (h0 : F[i0]? = some (Ent.box g0 3 [zi v0])) (i1 g1 : Nat) (h1 : F[i1]? = some (Ent.box g1 87 [.v (.pointer (some ⟨p, 0, none⟩))])) :
    ACalls Tryz.prog 118 [.v (.pointer (some ⟨g0, 0, none⟩)), .v (.pointer (some ⟨g1, 0, none⟩))] (F ++ BdE p bd A c) (BR2 (mCollect1 v0) bd p (N + 4) F) := by
 refine ACalls.intro Tryz.func118 rfl Tryz.ntmps118 nB rfl fun X w0 => ?_
 refine rs (Y1 (Yv.assign rfl eV) ?_)
 refine ya ?_
 refine AW.rseqH (HeldCs [(g0, 0, Value.int .i64 (v0)), (g1, 0, Value.pointer (some ⟨p, 0, none⟩))]) rfl (tells_cs (tcB i0 (appS (l := F) h0) rfl pinV (tcB i1 (appS (l := F) h1) rfl pinV (tc0)))) ?_
 refine T2 (i := 0) rfl (heldB 0 rfl ag_3 (E rfl rfl) rfl (fun _ _ => .v _)) ?_
 refine AWH.one (i := 1) (by kernel_rfl) rfl ?_
 refine Y1 (Yv.loadBox rfl ag_87 (i := i1) (appS (l := F) h1) eV rfl) ?_
 refine AWL.nil (kpH (tcB i0 (appS (l := F) h0) rfl pinV (tcB i1 (appS (l := F) h1) rfl pinV (tc0))) ?_)
 refine AWH.one (i := 2) (by kernel_rfl) rfl ?_
 refine AWL.callE rfl rfl (B rfl) rfl ce_87 (E rfl rfl) (evsC (E rfl rfl) (evsC (E rfl rfl) evs0)) (F1 := F) (S1 := (BdE p bd A c)) rfl (cCell p N bd A c ok (by omega) (0)) ?_
 rintro t6 S6 ⟨d1, bd1, A1, c1, e1, ok1, rfl, rfl⟩
 refine AWL.nil (kpH (tcB i0 (appS (l := F) h0) rfl pinV (tcB i1 (appS (l := F) h1) rfl pinV (tc0))) ?_)
 refine AWH.one (i := 3) (by kernel_rfl) rfl ?_
 refine Y1 (Yv.assign rfl eV) ?_
 refine AWL.nil (kpH (tcB i0 (appS (l := F) h0) rfl pinV (tcB i1 (appS (l := F) h1) rfl pinV (tc0))) ?_)
 refine AWH.one (i := 4) (by kernel_rfl) rfl ?_
 refine Y1 (Yv.assign rfl eV) ?_
 refine AWL.nil (kpH (tcB i0 (appS (l := F) h0) rfl pinV (tcB i1 (appS (l := F) h1) rfl pinV (tc0))) ?_)
 refine AWH.done (by kernel_rfl) ?_
 refine AW.ret (retI (.tmp rfl (.tmp rfl .nil)) ?_)
 exact ⟨_, _, _, _, _, rfl, (bq e1), ok1, rfl⟩

def mCollect2 (v1 : Int) : BM Unit :=
 bnd (mGet (v1) (0)) fun d1 =>
 bnd (mCall ((1 + 8)) [d1]) fun d2 =>
 bnd (mSave (v1) (0) (d2)) fun _ =>
 mIncr (v1) (8)
set_option maxHeartbeats 4000000 in
theorem cCollect2 (p N : Nat) (bd : Bd) (A : Option Addr) (c : Nat) (ok : BdOk N bd) (hN : N ≤ 90000) (F : St) (i0 g0 : Nat) (h0 : F[i0]? = some (Ent.box g0 87 [.v (.pointer (some ⟨p, 0, none⟩))])) (i1 g1 : Nat) (v1 : Int) (h1 : F[i1]? = some (Ent.box g1 3 [zi v1])) (i2 g2 : Nat) (h2 : F[i2]? = some (Ent.box g2 3 [zi 1])) :
    ACalls Tryz.prog 119 [.v (.pointer (some ⟨g0, 0, none⟩)), .v (.pointer (some ⟨g1, 0, none⟩)), .v (.pointer (some ⟨g2, 0, none⟩))] (F ++ BdE p bd A c) (BRF (mCollect2 v1) bd p (N + 8) F) := by
 refine ACalls.intro Tryz.func119 rfl Tryz.ntmps119 nB rfl fun X w0 => ?_
 refine AW.rseqH (HeldCs [(g0, 0, Value.pointer (some ⟨p, 0, none⟩)), (g1, 0, Value.int .i64 (v1)), (g2, 0, Value.int .i64 (1))]) rfl (tells_cs (tcB i0 (appS (l := F) h0) rfl pinV (tcB i1 (appS (l := F) h1) rfl pinV (tcB i2 (appS (l := F) h2) rfl pinV (tc0))))) ?_
 refine T2 (i := 0) rfl (heldB 0 rfl ag_87 (E rfl rfl) rfl (fun _ _ => .v _)) ?_
 refine T2 (i := 1) rfl (heldB 1 rfl ag_3 (E rfl rfl) rfl (fun _ _ => .v _)) ?_
 refine T2 (i := 2) rfl (heldB 0 rfl ag_87 (E rfl rfl) rfl (fun _ _ => .v _)) ?_
 refine T2 (i := 3) rfl (heldB 2 rfl ag_3 (E rfl rfl) rfl (fun _ _ => .v _)) ?_
 refine T2 (i := 4) rfl (heldAll (freeAddI rfl (E rfl rfl) (E rfl rfl) (by first | decide | omega))) ?_
 refine T2 (i := 5) rfl (heldB 0 rfl ag_87 (E rfl rfl) rfl (fun _ _ => .v _)) ?_
 refine AWH.one (i := 6) (by kernel_rfl) rfl ?_
 refine Y1 (Yv.loadBox rfl ag_3 (i := i1) (appS (l := F) h1) eV rfl) ?_
 refine AWL.nil (kpH (tcB i0 (appS (l := F) h0) rfl pinV (tcB i1 (appS (l := F) h1) rfl pinV (tcB i2 (appS (l := F) h2) rfl pinV (tc0)))) ?_)
 refine AWH.one (i := 7) (by kernel_rfl) rfl ?_
 refine AWL.callE rfl rfl (B rfl) rfl ce_99 (E rfl rfl) (evsC (E rfl rfl) (evsC (E rfl rfl) (evsC (E rfl rfl) evs0))) (F1 := F) (S1 := (BdE p bd A c)) rfl (cGet p N bd A c ok (by omega) (v1) (0)) ?_
 rintro t10 S10 ⟨d1, bd1, A1, c1, e1, ok1, rfl, rfl⟩
 refine AWL.nil (kpH (tcB i0 (appS (l := F) h0) rfl pinV (tcB i1 (appS (l := F) h1) rfl pinV (tcB i2 (appS (l := F) h2) rfl pinV (tc0)))) ?_)
 refine AWH.one (i := 8) (by kernel_rfl) rfl ?_
 refine AWL.buildSlice1 rfl rfl (B rfl) rfl el_35 rfl (evsC (E rfl rfl) evs0) nB rfl rfl ?_
 refine AWL.nil (kpH (tcB i0 (appS (l := F) h0) rfl pinV (tcB i1 (appS (l := F) h1) rfl pinV (tcB i2 (appS (l := F) h2) rfl pinV (tc0)))) ?_)
 refine AWH.one (i := 9) (by kernel_rfl) rfl ?_
 refine AWL.callE rfl rfl (B rfl) rfl ce_33 (E rfl rfl) (evsC (E rfl rfl) (evsC (E rfl rfl) (evsC (E rfl rfl) evs0))) (F1 := F) (S1 := (BdE p bd1 A1 c1)) rfl (cCall p (N + 2) bd1 A1 c1 ok1 (by omega) ((1 + 8)) [d1]) ?_
 rintro t12 S12 ⟨d2, bd2, A2, c2, e2, ok2, rfl, rfl⟩
 refine AWL.nil (kpH (tcB i0 (appS (l := F) h0) rfl pinV (tcB i1 (appS (l := F) h1) rfl pinV (tcB i2 (appS (l := F) h2) rfl pinV (tc0)))) ?_)
 refine AWH.one (i := 10) (by kernel_rfl) rfl ?_
 refine AWL.callE rfl rfl (B rfl) rfl ce_92 (E rfl rfl) (evsC (E rfl rfl) (evsC (E rfl rfl) (evsC (E rfl rfl) (evsC (E rfl rfl) evs0)))) (F1 := F) (S1 := (BdE p bd2 A2 c2)) rfl (cSave p (N + 4) bd2 A2 c2 ok2 (by omega) (v1) (0) (d2)) ?_
 rintro t13 S13 ⟨d3, bd3, A3, c3, e3, ok3, rfl, rfl⟩
 refine AWL.nil (kpH (tcB i0 (appS (l := F) h0) rfl pinV (tcB i1 (appS (l := F) h1) rfl pinV (tcB i2 (appS (l := F) h2) rfl pinV (tc0)))) ?_)
 refine AWH.done (by kernel_rfl) ?_
 refine AW.region ?_
 refine Y1 (Yv.loadBox rfl ag_87 (i := i0) (appS (l := F) h0) eV rfl) ?_
 refine Y1 (Yv.loadBox rfl ag_3 (i := i1) (appS (l := F) h1) eV rfl) ?_
 refine AWL.callE rfl rfl (B rfl) rfl ce_79 (E rfl rfl) (evsC (E rfl rfl) (evsC (E rfl rfl) (evsC (E rfl rfl) evs0))) (F1 := F) (S1 := (BdE p bd3 A3 c3)) rfl (cIncr p (N + 5) bd3 A3 c3 ok3 (by omega) (v1) (8)) ?_
 rintro t16 S16 ⟨d4, bd4, A4, c4, e4, ok4, rfl, rfl⟩
 refine nl ?_
 refine retN .nil ?_
 exact ⟨rfl, _, _, _, (bq e1).trans ((bq e2).trans ((bq e3).trans (e4))), ok4, rfl⟩

def mCollect3 (v0 : Int) : BM (Int × Int) :=
 bnd (mCell (320)) fun d1 =>
 rtn ((v0), (d1))
set_option maxHeartbeats 4000000 in
theorem cCollect3 (p N : Nat) (bd : Bd) (A : Option Addr) (c : Nat) (ok : BdOk N bd) (hN : N ≤ 90000) (F : St) (i0 g0 : Nat) (v0 : Int) (h0 : F[i0]? = some (Ent.box g0 3 [zi v0])) (i1 g1 : Nat) (h1 : F[i1]? = some (Ent.box g1 87 [.v (.pointer (some ⟨p, 0, none⟩))])) :
    ACalls Tryz.prog 120 [.v (.pointer (some ⟨g0, 0, none⟩)), .v (.pointer (some ⟨g1, 0, none⟩))] (F ++ BdE p bd A c) (BR2 (mCollect3 v0) bd p (N + 4) F) := by
 refine ACalls.intro Tryz.func120 rfl Tryz.ntmps120 nB rfl fun X w0 => ?_
 refine rs (Y1 (Yv.assign rfl eV) ?_)
 refine ya ?_
 refine AW.rseqH (HeldCs [(g0, 0, Value.int .i64 (v0)), (g1, 0, Value.pointer (some ⟨p, 0, none⟩))]) rfl (tells_cs (tcB i0 (appS (l := F) h0) rfl pinV (tcB i1 (appS (l := F) h1) rfl pinV (tc0)))) ?_
 refine T2 (i := 0) rfl (heldB 0 rfl ag_3 (E rfl rfl) rfl (fun _ _ => .v _)) ?_
 refine AWH.one (i := 1) (by kernel_rfl) rfl ?_
 refine Y1 (Yv.loadBox rfl ag_87 (i := i1) (appS (l := F) h1) eV rfl) ?_
 refine AWL.nil (kpH (tcB i0 (appS (l := F) h0) rfl pinV (tcB i1 (appS (l := F) h1) rfl pinV (tc0))) ?_)
 refine AWH.one (i := 2) (by kernel_rfl) rfl ?_
 refine AWL.callE rfl rfl (B rfl) rfl ce_87 (E rfl rfl) (evsC (E rfl rfl) (evsC (E rfl rfl) evs0)) (F1 := F) (S1 := (BdE p bd A c)) rfl (cCell p N bd A c ok (by omega) (320)) ?_
 rintro t6 S6 ⟨d1, bd1, A1, c1, e1, ok1, rfl, rfl⟩
 refine AWL.nil (kpH (tcB i0 (appS (l := F) h0) rfl pinV (tcB i1 (appS (l := F) h1) rfl pinV (tc0))) ?_)
 refine AWH.one (i := 3) (by kernel_rfl) rfl ?_
 refine Y1 (Yv.assign rfl eV) ?_
 refine AWL.nil (kpH (tcB i0 (appS (l := F) h0) rfl pinV (tcB i1 (appS (l := F) h1) rfl pinV (tc0))) ?_)
 refine AWH.one (i := 4) (by kernel_rfl) rfl ?_
 refine Y1 (Yv.assign rfl eV) ?_
 refine AWL.nil (kpH (tcB i0 (appS (l := F) h0) rfl pinV (tcB i1 (appS (l := F) h1) rfl pinV (tc0))) ?_)
 refine AWH.done (by kernel_rfl) ?_
 refine AW.ret (retI (.tmp rfl (.tmp rfl .nil)) ?_)
 exact ⟨_, _, _, _, _, rfl, (bq e1), ok1, rfl⟩

def mCollect4 (v1 : Int) : BM Unit :=
 bnd (mGet (v1) (0)) fun d1 =>
 bnd (mGet (d1) (0)) fun d2 =>
 bnd (mAnd (d2) ((-33))) fun d3 =>
 bnd (mSave (d1) (0) (d3)) fun _ =>
 bnd (mCall ((1 + 9)) [d1]) fun d5 =>
 mIncr (v1) (8)
set_option maxHeartbeats 4000000 in
theorem cCollect4 (p N : Nat) (bd : Bd) (A : Option Addr) (c : Nat) (ok : BdOk N bd) (hN : N ≤ 90000) (F : St) (i0 g0 : Nat) (h0 : F[i0]? = some (Ent.box g0 87 [.v (.pointer (some ⟨p, 0, none⟩))])) (i1 g1 : Nat) (v1 : Int) (h1 : F[i1]? = some (Ent.box g1 3 [zi v1])) (i2 g2 : Nat) (h2 : F[i2]? = some (Ent.box g2 3 [zi 1])) :
    ACalls Tryz.prog 121 [.v (.pointer (some ⟨g0, 0, none⟩)), .v (.pointer (some ⟨g1, 0, none⟩)), .v (.pointer (some ⟨g2, 0, none⟩))] (F ++ BdE p bd A c) (BRF (mCollect4 v1) bd p (N + 14) F) := by
 refine ACalls.intro Tryz.func121 rfl Tryz.ntmps121 nB rfl fun X w0 => ?_
 refine rs (Y1 (Yv.loadBox rfl ag_87 (i := i0) (appS (l := F) h0) eV rfl) ?_)
 refine Y1 (Yv.loadBox rfl ag_3 (i := i1) (appS (l := F) h1) eV rfl) ?_
 refine AWL.callE rfl rfl (B rfl) rfl ce_99 (E rfl rfl) (evsC (E rfl rfl) (evsC (E rfl rfl) (evsC (E rfl rfl) evs0))) (F1 := F) (S1 := (BdE p bd A c)) rfl (cGet p N bd A c ok (by omega) (v1) (0)) ?_
 rintro t6 S6 ⟨d1, bd1, A1, c1, e1, ok1, rfl, rfl⟩
 refine ya ?_
 refine AW.rseqH (HeldCs [(g0, 0, Value.pointer (some ⟨p, 0, none⟩)), (g1, 0, Value.int .i64 (v1)), (g2, 0, Value.int .i64 (1))]) rfl (tells_cs (tcB i0 (appS (l := F) h0) rfl pinV (tcB i1 (appS (l := F) h1) rfl pinV (tcB i2 (appS (l := F) h2) rfl pinV (tc0))))) ?_
 refine T2 (i := 0) rfl (heldB 0 rfl ag_87 (E rfl rfl) rfl (fun _ _ => .v _)) ?_
 refine T2 (i := 1) rfl (heldAll (freeMove rfl (E rfl rfl))) ?_
 refine T2 (i := 2) rfl (heldB 0 rfl ag_87 (E rfl rfl) rfl (fun _ _ => .v _)) ?_
 refine T2 (i := 3) rfl (heldB 0 rfl ag_87 (E rfl rfl) rfl (fun _ _ => .v _)) ?_
 refine AWH.one (i := 4) (by kernel_rfl) rfl ?_
 refine ym ?_
 refine AWL.nil (kpH (tcB i0 (appS (l := F) h0) rfl pinV (tcB i1 (appS (l := F) h1) rfl pinV (tcB i2 (appS (l := F) h2) rfl pinV (tc0)))) ?_)
 refine AWH.one (i := 5) (by kernel_rfl) rfl ?_
 refine AWL.callE rfl rfl (B rfl) rfl ce_99 (E rfl rfl) (evsC (E rfl rfl) (evsC (E rfl rfl) (evsC (E rfl rfl) evs0))) (F1 := F) (S1 := (BdE p bd1 A1 c1)) rfl (cGet p (N + 2) bd1 A1 c1 ok1 (by omega) (d1) (0)) ?_
 rintro t12 S12 ⟨d2, bd2, A2, c2, e2, ok2, rfl, rfl⟩
 refine AWL.nil (kpH (tcB i0 (appS (l := F) h0) rfl pinV (tcB i1 (appS (l := F) h1) rfl pinV (tcB i2 (appS (l := F) h2) rfl pinV (tc0)))) ?_)
 refine AWH.one (i := 6) (by kernel_rfl) rfl ?_
 refine AWL.callE rfl rfl (B rfl) rfl ce_100 (E rfl rfl) (evsC (E rfl rfl) (evsC (E rfl rfl) (evsC (E rfl rfl) evs0))) (F1 := F) (S1 := (BdE p bd2 A2 c2)) rfl (cAnd p (N + 4) bd2 A2 c2 ok2 (by omega) (d2) ((-33))) ?_
 rintro t13 S13 ⟨d3, bd3, A3, c3, e3, ok3, rfl, rfl⟩
 refine AWL.nil (kpH (tcB i0 (appS (l := F) h0) rfl pinV (tcB i1 (appS (l := F) h1) rfl pinV (tcB i2 (appS (l := F) h2) rfl pinV (tc0)))) ?_)
 refine AWH.one (i := 7) (by kernel_rfl) rfl ?_
 refine AWL.callE rfl rfl (B rfl) rfl ce_92 (E rfl rfl) (evsC (E rfl rfl) (evsC (E rfl rfl) (evsC (E rfl rfl) (evsC (E rfl rfl) evs0)))) (F1 := F) (S1 := (BdE p bd3 A3 c3)) rfl (cSave p (N + 8) bd3 A3 c3 ok3 (by omega) (d1) (0) (d3)) ?_
 rintro t14 S14 ⟨d4, bd4, A4, c4, e4, ok4, rfl, rfl⟩
 refine AWL.nil (kpH (tcB i0 (appS (l := F) h0) rfl pinV (tcB i1 (appS (l := F) h1) rfl pinV (tcB i2 (appS (l := F) h2) rfl pinV (tc0)))) ?_)
 refine AWH.done (by kernel_rfl) ?_
 refine rs (Y1 (Yv.loadBox rfl ag_87 (i := i0) (appS (l := F) h0) eV rfl) ?_)
 refine Y1 (Yv.loadBox rfl ag_3 (i := i2) (appS (l := F) h2) eV rfl) ?_
 refine Y1 (Yv.addN_i64 rfl eV eV (fun hg => by omega)) ?_
 refine ym ?_
 refine AWL.buildSlice1 rfl rfl (B rfl) rfl el_35 rfl (evsC (E rfl rfl) evs0) nB rfl rfl ?_
 refine AWL.callE rfl rfl (B rfl) rfl ce_33 (E rfl rfl) (evsC (E rfl rfl) (evsC (E rfl rfl) (evsC (E rfl rfl) evs0))) (F1 := F) (S1 := (BdE p bd4 A4 c4)) rfl (cCall p (N + 9) bd4 A4 c4 ok4 (by omega) ((1 + 9)) [d1]) ?_
 rintro t20 S20 ⟨d5, bd5, A5, c5, e5, ok5, rfl, rfl⟩
 refine nl ?_
 refine AW.region ?_
 refine Y1 (Yv.loadBox rfl ag_87 (i := i0) (appS (l := F) h0) eV rfl) ?_
 refine Y1 (Yv.loadBox rfl ag_3 (i := i1) (appS (l := F) h1) eV rfl) ?_
 refine AWL.callE rfl rfl (B rfl) rfl ce_79 (E rfl rfl) (evsC (E rfl rfl) (evsC (E rfl rfl) (evsC (E rfl rfl) evs0))) (F1 := F) (S1 := (BdE p bd5 A5 c5)) rfl (cIncr p (N + 11) bd5 A5 c5 ok5 (by omega) (v1) (8)) ?_
 rintro t23 S23 ⟨d6, bd6, A6, c6, e6, ok6, rfl, rfl⟩
 refine nl ?_
 refine retN .nil ?_
 exact ⟨rfl, _, _, _, (bq e1).trans ((bq e2).trans ((bq e3).trans ((bq e4).trans ((bq e5).trans (e6))))), ok6, rfl⟩

def mCollect5 (v0 : Int) : BM (Int × Int) :=
 bnd (mCell (328)) fun d1 =>
 rtn ((v0), (d1))
set_option maxHeartbeats 4000000 in
theorem cCollect5 (p N : Nat) (bd : Bd) (A : Option Addr) (c : Nat) (ok : BdOk N bd) (hN : N ≤ 90000) (F : St) (i0 g0 : Nat) (v0 : Int) (h0 : F[i0]? = some (Ent.box g0 3 [zi v0])) (i1 g1 : Nat) (h1 : F[i1]? = some (Ent.box g1 87 [.v (.pointer (some ⟨p, 0, none⟩))])) :
    ACalls Tryz.prog 122 [.v (.pointer (some ⟨g0, 0, none⟩)), .v (.pointer (some ⟨g1, 0, none⟩))] (F ++ BdE p bd A c) (BR2 (mCollect5 v0) bd p (N + 4) F) := by
 refine ACalls.intro Tryz.func122 rfl Tryz.ntmps122 nB rfl fun X w0 => ?_
 refine rs (Y1 (Yv.assign rfl eV) ?_)
 refine ya ?_
 refine AW.rseqH (HeldCs [(g0, 0, Value.int .i64 (v0)), (g1, 0, Value.pointer (some ⟨p, 0, none⟩))]) rfl (tells_cs (tcB i0 (appS (l := F) h0) rfl pinV (tcB i1 (appS (l := F) h1) rfl pinV (tc0)))) ?_
 refine T2 (i := 0) rfl (heldB 0 rfl ag_3 (E rfl rfl) rfl (fun _ _ => .v _)) ?_
 refine AWH.one (i := 1) (by kernel_rfl) rfl ?_
 refine Y1 (Yv.loadBox rfl ag_87 (i := i1) (appS (l := F) h1) eV rfl) ?_
 refine AWL.nil (kpH (tcB i0 (appS (l := F) h0) rfl pinV (tcB i1 (appS (l := F) h1) rfl pinV (tc0))) ?_)
 refine AWH.one (i := 2) (by kernel_rfl) rfl ?_
 refine AWL.callE rfl rfl (B rfl) rfl ce_87 (E rfl rfl) (evsC (E rfl rfl) (evsC (E rfl rfl) evs0)) (F1 := F) (S1 := (BdE p bd A c)) rfl (cCell p N bd A c ok (by omega) (328)) ?_
 rintro t6 S6 ⟨d1, bd1, A1, c1, e1, ok1, rfl, rfl⟩
 refine AWL.nil (kpH (tcB i0 (appS (l := F) h0) rfl pinV (tcB i1 (appS (l := F) h1) rfl pinV (tc0))) ?_)
 refine AWH.one (i := 3) (by kernel_rfl) rfl ?_
 refine Y1 (Yv.assign rfl eV) ?_
 refine AWL.nil (kpH (tcB i0 (appS (l := F) h0) rfl pinV (tcB i1 (appS (l := F) h1) rfl pinV (tc0))) ?_)
 refine AWH.one (i := 4) (by kernel_rfl) rfl ?_
 refine Y1 (Yv.assign rfl eV) ?_
 refine AWL.nil (kpH (tcB i0 (appS (l := F) h0) rfl pinV (tcB i1 (appS (l := F) h1) rfl pinV (tc0))) ?_)
 refine AWH.done (by kernel_rfl) ?_
 refine AW.ret (retI (.tmp rfl (.tmp rfl .nil)) ?_)
 exact ⟨_, _, _, _, _, rfl, (bq e1), ok1, rfl⟩

def mCollect6 (v1 : Int) : BM Unit :=
 bnd (mCall ((1 + 9)) [v1]) fun d1 =>
 mSet (v1) (d1)
set_option maxHeartbeats 4000000 in
theorem cCollect6 (p N : Nat) (bd : Bd) (A : Option Addr) (c : Nat) (ok : BdOk N bd) (hN : N ≤ 90000) (F : St) (i0 g0 : Nat) (h0 : F[i0]? = some (Ent.box g0 87 [.v (.pointer (some ⟨p, 0, none⟩))])) (i1 g1 : Nat) (v1 : Int) (h1 : F[i1]? = some (Ent.box g1 3 [zi v1])) (i2 g2 : Nat) (h2 : F[i2]? = some (Ent.box g2 3 [zi 1])) :
    ACalls Tryz.prog 123 [.v (.pointer (some ⟨g0, 0, none⟩)), .v (.pointer (some ⟨g1, 0, none⟩)), .v (.pointer (some ⟨g2, 0, none⟩))] (F ++ BdE p bd A c) (BRF (mCollect6 v1) bd p (N + 3) F) := by
 refine ACalls.intro Tryz.func123 rfl Tryz.ntmps123 nB rfl fun X w0 => ?_
 refine AW.regionH (HeldCs [(g0, 0, Value.pointer (some ⟨p, 0, none⟩)), (g1, 0, Value.int .i64 (v1)), (g2, 0, Value.int .i64 (1))]) rfl (tells_cs (tcB i0 (appS (l := F) h0) rfl pinV (tcB i1 (appS (l := F) h1) rfl pinV (tcB i2 (appS (l := F) h2) rfl pinV (tc0))))) ?_
 refine T2 (i := 0) rfl (heldB 0 rfl ag_87 (E rfl rfl) rfl (fun _ _ => .v _)) ?_
 refine T2 (i := 1) rfl (heldB 1 rfl ag_3 (E rfl rfl) rfl (fun _ _ => .v _)) ?_
 refine T2 (i := 2) rfl (heldB 0 rfl ag_87 (E rfl rfl) rfl (fun _ _ => .v _)) ?_
 refine T2 (i := 3) rfl (heldB 2 rfl ag_3 (E rfl rfl) rfl (fun _ _ => .v _)) ?_
 refine T2 (i := 4) rfl (heldAll (freeAddI rfl (E rfl rfl) (E rfl rfl) (by first | decide | omega))) ?_
 refine AWH.one (i := 5) (by kernel_rfl) rfl ?_
 refine Y1 (Yv.loadBox rfl ag_3 (i := i1) (appS (l := F) h1) eV rfl) ?_
 refine AWL.nil (kpH (tcB i0 (appS (l := F) h0) rfl pinV (tcB i1 (appS (l := F) h1) rfl pinV (tcB i2 (appS (l := F) h2) rfl pinV (tc0)))) ?_)
 refine AWH.one (i := 6) (by kernel_rfl) rfl ?_
 refine AWL.buildSlice1 rfl rfl (B rfl) rfl el_35 rfl (evsC (E rfl rfl) evs0) nB rfl rfl ?_
 refine AWL.nil (kpH (tcB i0 (appS (l := F) h0) rfl pinV (tcB i1 (appS (l := F) h1) rfl pinV (tcB i2 (appS (l := F) h2) rfl pinV (tc0)))) ?_)
 refine AWH.one (i := 7) (by kernel_rfl) rfl ?_
 refine AWL.callE rfl rfl (B rfl) rfl ce_33 (E rfl rfl) (evsC (E rfl rfl) (evsC (E rfl rfl) (evsC (E rfl rfl) evs0))) (F1 := F) (S1 := (BdE p bd A c)) rfl (cCall p N bd A c ok (by omega) ((1 + 9)) [v1]) ?_
 rintro t10 S10 ⟨d1, bd1, A1, c1, e1, ok1, rfl, rfl⟩
 refine AWL.nil (kpH (tcB i0 (appS (l := F) h0) rfl pinV (tcB i1 (appS (l := F) h1) rfl pinV (tcB i2 (appS (l := F) h2) rfl pinV (tc0)))) ?_)
 refine AWH.one (i := 8) (by kernel_rfl) rfl ?_
 refine AWL.callE rfl rfl (B rfl) rfl ce_124 (E rfl rfl) (evsC (E rfl rfl) (evsC (E rfl rfl) (evsC (E rfl rfl) evs0))) (F1 := F) (S1 := (BdE p bd1 A1 c1)) rfl (cSet p (N + 2) bd1 A1 c1 ok1 (by omega) (v1) (d1)) ?_
 rintro t11 S11 ⟨d2, bd2, A2, c2, e2, ok2, rfl, rfl⟩
 refine AWL.nil (kpH (tcB i0 (appS (l := F) h0) rfl pinV (tcB i1 (appS (l := F) h1) rfl pinV (tcB i2 (appS (l := F) h2) rfl pinV (tc0)))) ?_)
 refine AWH.done (by kernel_rfl) ?_
 refine retN .nil ?_
 exact ⟨rfl, _, _, _, (bq e1).trans (e2), ok2, rfl⟩

end Go.Proofs.YtpgbpdnmjeoeoaaGreat.B

namespace Go.Proofs.YtpgbpdnmjeoeoaaGreat.B
open Go Go.RowKit

def mAllocFn : BM Unit :=
 bnd (labelM) fun d1 =>
 bnd (labelM) fun d2 =>
 bnd (mCell (272)) fun d3 =>
 bnd (mCell (256)) fun d4 =>
 bnd (mSub (d3) (d4)) fun d5 =>
 bnd (mIf (5) (d5) (0) (d1)) fun _ =>
 bnd (labelM) fun d7 =>
 bnd (mAt (d2)) fun _ =>
 bnd (mCell (264)) fun d9 =>
 bnd (mAdd (d9) (0)) fun d10 =>
 bnd (mCell (272)) fun d11 =>
 bnd (mIf (5) (d11) (d10) (d7)) fun _ =>
 bnd (mSetCell (264) (d10)) fun _ =>
 bnd (mRet (d9)) fun _ =>
 bnd (mAt (d7)) fun _ =>
 bnd (mCall ((1 + 2)) []) fun d16 =>
 bnd (mJump (d2)) fun _ =>
 bnd (mAt (d1)) fun _ =>
 bnd (labelM) fun d19 =>
 bnd (mCell (296)) fun d20 =>
 bnd (mCell (288)) fun d21 =>
 bnd (mSub (d20) (d21)) fun d22 =>
 bnd (mIf (6) (0) (d22) (d19)) fun _ =>
 bnd (mCall ((1 + 3)) []) fun d24 =>
 bnd (mCell (296)) fun d25 =>
 bnd (mCell (288)) fun d26 =>
 bnd (mSub (d25) (d26)) fun d27 =>
 bnd (mThen (5) (d27) (0) (mAlloc1 )) fun _ =>
 bnd (mAt (d19)) fun _ =>
 bnd (mCell (288)) fun d30 =>
 bnd (mAdd (d30) (0)) fun d31 =>
 bnd (mSetCell (288) (d31)) fun _ =>
 bnd (mCell (320)) fun d33 =>
 bnd (mSave (d33) (0) (d30)) fun _ =>
 bnd (mAddC (d33) (8)) fun d35 =>
 bnd (mSetCell (320) (d35)) fun _ =>
 bnd (mC (37)) fun d37 =>
 bnd (mSave (d30) (0) (d37)) fun _ =>
 mRet (d30)
def fAllocFn : Fn := fnB (mAllocFn (bd0 [103, 99, 46, 97, 108, 108, 111, 99] 1)).2
set_option maxHeartbeats 16000000 in
theorem cAllocFn_  :
    ACalls Tryz.prog 55 [zi 1] [] (fun t S => t = .agg (fnCells (fAllocFn))) := by
 refine ACalls.intro Tryz.func55 rfl Tryz.ntmps55 nB rfl fun X w0 => ?_
 refine rs ?_
 refine AWL.boxOp rfl rfl (B rfl) rfl (E rfl rfl) rfl (fun b1 => ?_)
 refine AWL.perm (List.perm_append_singleton _ _).symm ?_
 refine AWL.allocOp rfl rfl (B rfl) rfl zc_93 (fun b2 => ?_)
 refine AWL.perm (List.perm_append_singleton _ _).symm (nl ?_)
 refine rs ?_
 refine AWL.callE rfl rfl (B rfl) rfl ce_32 (E rfl rfl) (evsC (E rfl rfl) (evsC (E rfl rfl) evs0)) (F1 := [Ent.box b2 93 (([.string ⟨#[]⟩, .int .i64 0, .int .i64 0, .int .i64 0, .slice none 0 0] : List Value).map T.v), Ent.box b1 3 [zi (1)]]) (S1 := []) rfl (cNew [103, 99, 46, 97, 108, 108, 111, 99] 1) ?_
 rintro t13 S13 ⟨p, rfl, rfl⟩
 have ok0 : BdOk 1 (bd0 [103, 99, 46, 97, 108, 108, 111, 99] 1) := ⟨by decide, by decide, by decide, by decide, by decide, by decide, by decide⟩
 refine AWL.allocOp rfl rfl (B rfl) rfl zc_87 (fun b3 => ?_)
 refine AWL.perm (List.perm_append_singleton _ _).symm ?_
 refine AWL.storeBox (i := 0) rfl rfl rfl ag_87 rfl (E rfl rfl) (E rfl rfl) rfl rfl nB (nl ?_)
 refine ra ?_
 refine AW.rseqH (HeldCs [(b3, 0, Value.pointer (some ⟨p, 0, none⟩)), (b1, 0, Value.int .i64 (1))]) rfl (tells_cs (tcB 0 rfl rfl pinV (tcB 2 rfl rfl pinV (tc0)))) ?_
 refine T2 (i := 0) rfl (heldB 0 rfl ag_87 (E rfl rfl) rfl (fun _ _ => .v _)) ?_
 refine T2 (i := 2) rfl (heldB 0 rfl ag_87 (E rfl rfl) rfl (fun _ _ => .v _)) ?_
 refine AWH.one (i := 1) (by kernel_rfl) rfl ?_
 refine AWL.callE rfl rfl (B rfl) rfl ce_84 (E rfl rfl) (evsC (E rfl rfl) evs0) (F1 := [Ent.box b3 87 [.v (.pointer (some ⟨p, 0, none⟩))], Ent.box b2 93 (([.string ⟨#[]⟩, .int .i64 0, .int .i64 0, .int .i64 0, .slice none 0 0] : List Value).map T.v), Ent.box b1 3 [zi (1)]]) (S1 := (BdE p (bd0 [103, 99, 46, 97, 108, 108, 111, 99] 1) none 0)) rfl (cLabel p 1 (bd0 [103, 99, 46, 97, 108, 108, 111, 99] 1) none 0 ok0 (by omega) ) ?_
 rintro t15 S15 ⟨d1, bd1, A1, c1, e1, ok1, rfl, rfl⟩
 refine AWL.nil (kpH (tcB 0 rfl rfl pinV (tcB 2 rfl rfl pinV (tc0))) ?_)
 refine AWH.one (i := 3) (by kernel_rfl) rfl ?_
 refine AWL.callE rfl rfl (B rfl) rfl ce_84 (E rfl rfl) (evsC (E rfl rfl) evs0) (F1 := [Ent.box b3 87 [.v (.pointer (some ⟨p, 0, none⟩))], Ent.box b2 93 (([.string ⟨#[]⟩, .int .i64 0, .int .i64 0, .int .i64 0, .slice none 0 0] : List Value).map T.v), Ent.box b1 3 [zi (1)]]) (S1 := (BdE p bd1 A1 c1)) rfl (cLabel p (1 + 1) bd1 A1 c1 ok1 (by omega) ) ?_
 rintro t17 S17 ⟨d2, bd2, A2, c2, e2, ok2, rfl, rfl⟩
 refine AWL.nil (kpH (tcB 0 rfl rfl pinV (tcB 2 rfl rfl pinV (tc0))) ?_)
 refine AWH.one (i := 4) (by kernel_rfl) rfl ?_
 refine Y1 (Yv.assign rfl eV) ?_
 refine AWL.nil (kpH (tcB 0 rfl rfl pinV (tcB 2 rfl rfl pinV (tc0))) ?_)
 refine AWH.one (i := 5) (by kernel_rfl) rfl ?_
 refine Y1 (Yv.assign rfl eV) ?_
 refine AWL.nil (kpH (tcB 0 rfl rfl pinV (tcB 2 rfl rfl pinV (tc0))) ?_)
 refine AWH.done (by kernel_rfl) ?_
 refine AW.rseqH (HeldCs [(b3, 0, Value.pointer (some ⟨p, 0, none⟩)), (b1, 0, Value.int .i64 (1))]) rfl (tells_cs (tcB 0 rfl rfl pinV (tcB 2 rfl rfl pinV (tc0)))) ?_
 refine T2 (i := 0) rfl (heldB 0 rfl ag_87 (E rfl rfl) rfl (fun _ _ => .v _)) ?_
 refine T2 (i := 1) rfl (heldB 0 rfl ag_87 (E rfl rfl) rfl (fun _ _ => .v _)) ?_
 refine T2 (i := 2) rfl (heldB 0 rfl ag_87 (E rfl rfl) rfl (fun _ _ => .v _)) ?_
 refine T2 (i := 4) rfl (heldB 0 rfl ag_87 (E rfl rfl) rfl (fun _ _ => .v _)) ?_
 refine T2 (i := 7) rfl (heldAll (freeMove rfl (E rfl rfl))) ?_
 refine T2 (i := 8) rfl (heldAll (freeMove rfl (E rfl rfl))) ?_
 refine AWH.one (i := 3) (by kernel_rfl) rfl ?_
 refine AWL.callE rfl rfl (B rfl) rfl ce_87 (E rfl rfl) (evsC (E rfl rfl) (evsC (E rfl rfl) evs0)) (F1 := [Ent.box b3 87 [.v (.pointer (some ⟨p, 0, none⟩))], Ent.box b2 93 (([.string ⟨#[]⟩, .int .i64 0, .int .i64 0, .int .i64 0, .slice none 0 0] : List Value).map T.v), Ent.box b1 3 [zi (1)]]) (S1 := (BdE p bd2 A2 c2)) rfl (cCell p (1 + 2) bd2 A2 c2 ok2 (by omega) (272)) ?_
 rintro t21 S21 ⟨d3, bd3, A3, c3, e3, ok3, rfl, rfl⟩
 refine AWL.nil (kpH (tcB 0 rfl rfl pinV (tcB 2 rfl rfl pinV (tc0))) ?_)
 refine AWH.one (i := 5) (by kernel_rfl) rfl ?_
 refine AWL.callE rfl rfl (B rfl) rfl ce_87 (E rfl rfl) (evsC (E rfl rfl) (evsC (E rfl rfl) evs0)) (F1 := [Ent.box b3 87 [.v (.pointer (some ⟨p, 0, none⟩))], Ent.box b2 93 (([.string ⟨#[]⟩, .int .i64 0, .int .i64 0, .int .i64 0, .slice none 0 0] : List Value).map T.v), Ent.box b1 3 [zi (1)]]) (S1 := (BdE p bd3 A3 c3)) rfl (cCell p (1 + 6) bd3 A3 c3 ok3 (by omega) (256)) ?_
 rintro t23 S23 ⟨d4, bd4, A4, c4, e4, ok4, rfl, rfl⟩
 refine AWL.nil (kpH (tcB 0 rfl rfl pinV (tcB 2 rfl rfl pinV (tc0))) ?_)
 refine AWH.one (i := 6) (by kernel_rfl) rfl ?_
 refine AWL.callE rfl rfl (B rfl) rfl ce_86 (E rfl rfl) (evsC (E rfl rfl) (evsC (E rfl rfl) (evsC (E rfl rfl) evs0))) (F1 := [Ent.box b3 87 [.v (.pointer (some ⟨p, 0, none⟩))], Ent.box b2 93 (([.string ⟨#[]⟩, .int .i64 0, .int .i64 0, .int .i64 0, .slice none 0 0] : List Value).map T.v), Ent.box b1 3 [zi (1)]]) (S1 := (BdE p bd4 A4 c4)) rfl (cSub p (1 + 10) bd4 A4 c4 ok4 (by omega) (d3) (d4)) ?_
 rintro t24 S24 ⟨d5, bd5, A5, c5, e5, ok5, rfl, rfl⟩
 refine AWL.nil (kpH (tcB 0 rfl rfl pinV (tcB 2 rfl rfl pinV (tc0))) ?_)
 refine AWH.one (i := 9) (by kernel_rfl) rfl ?_
 refine AWL.callE rfl rfl (B rfl) rfl ce_85 (E rfl rfl) (evsC (E rfl rfl) (evsC (E rfl rfl) (evsC (E rfl rfl) (evsC (E rfl rfl) (evsC (E rfl rfl) evs0))))) (F1 := [Ent.box b3 87 [.v (.pointer (some ⟨p, 0, none⟩))], Ent.box b2 93 (([.string ⟨#[]⟩, .int .i64 0, .int .i64 0, .int .i64 0, .slice none 0 0] : List Value).map T.v), Ent.box b1 3 [zi (1)]]) (S1 := (BdE p bd5 A5 c5)) rfl (cIf p (1 + 12) bd5 A5 c5 ok5 (by omega) (5) (d5) (0) (d1)) ?_
 rintro t27 S27 ⟨d6, bd6, A6, c6, e6, ok6, rfl, rfl⟩
 refine AWL.nil (kpH (tcB 0 rfl rfl pinV (tcB 2 rfl rfl pinV (tc0))) ?_)
 refine AWH.done (by kernel_rfl) ?_
 refine rs (yl ag_87 0 ?_)
 refine AWL.callE rfl rfl (B rfl) rfl ce_84 (E rfl rfl) (evsC (E rfl rfl) evs0) (F1 := [Ent.box b3 87 [.v (.pointer (some ⟨p, 0, none⟩))], Ent.box b2 93 (([.string ⟨#[]⟩, .int .i64 0, .int .i64 0, .int .i64 0, .slice none 0 0] : List Value).map T.v), Ent.box b1 3 [zi (1)]]) (S1 := (BdE p bd6 A6 c6)) rfl (cLabel p (1 + 13) bd6 A6 c6 ok6 (by omega) ) ?_
 rintro t29 S29 ⟨d7, bd7, A7, c7, e7, ok7, rfl, rfl⟩
 refine ya ?_
 refine rs (yl ag_87 0 ?_)
 refine ym ?_
 refine AWL.callE rfl rfl (B rfl) rfl ce_88 (E rfl rfl) (evsC (E rfl rfl) (evsC (E rfl rfl) evs0)) (F1 := [Ent.box b3 87 [.v (.pointer (some ⟨p, 0, none⟩))], Ent.box b2 93 (([.string ⟨#[]⟩, .int .i64 0, .int .i64 0, .int .i64 0, .slice none 0 0] : List Value).map T.v), Ent.box b1 3 [zi (1)]]) (S1 := (BdE p bd7 A7 c7)) rfl (cAt p (1 + 14) bd7 A7 c7 ok7 (by omega) (d2)) ?_
 rintro t32 S32 ⟨d8, bd8, A8, c8, e8, ok8, rfl, rfl⟩
 refine nl ?_
 refine rs (yl ag_87 0 ?_)
 refine AWL.callE rfl rfl (B rfl) rfl ce_87 (E rfl rfl) (evsC (E rfl rfl) (evsC (E rfl rfl) evs0)) (F1 := [Ent.box b3 87 [.v (.pointer (some ⟨p, 0, none⟩))], Ent.box b2 93 (([.string ⟨#[]⟩, .int .i64 0, .int .i64 0, .int .i64 0, .slice none 0 0] : List Value).map T.v), Ent.box b1 3 [zi (1)]]) (S1 := (BdE p bd8 A8 c8)) rfl (cCell p (1 + 15) bd8 A8 c8 ok8 (by omega) (264)) ?_
 rintro t34 S34 ⟨d9, bd9, A9, c9, e9, ok9, rfl, rfl⟩
 refine ya ?_
 refine rs (yl ag_87 0 ?_)
 refine ym ?_
 refine ym ?_
 refine AWL.callE rfl rfl (B rfl) rfl ce_83 (E rfl rfl) (evsC (E rfl rfl) (evsC (E rfl rfl) (evsC (E rfl rfl) evs0))) (F1 := [Ent.box b3 87 [.v (.pointer (some ⟨p, 0, none⟩))], Ent.box b2 93 (([.string ⟨#[]⟩, .int .i64 0, .int .i64 0, .int .i64 0, .slice none 0 0] : List Value).map T.v), Ent.box b1 3 [zi (1)]]) (S1 := (BdE p bd9 A9 c9)) rfl (cAdd p (1 + 19) bd9 A9 c9 ok9 (by omega) (d9) (0)) ?_
 rintro t38 S38 ⟨d10, bd10, A10, c10, e10, ok10, rfl, rfl⟩
 refine ya ?_
 refine AW.rseqH (HeldCs [(b3, 0, Value.pointer (some ⟨p, 0, none⟩)), (b1, 0, Value.int .i64 (1))]) rfl (tells_cs (tcB 0 rfl rfl pinV (tcB 2 rfl rfl pinV (tc0)))) ?_
 refine T2 (i := 0) rfl (heldB 0 rfl ag_87 (E rfl rfl) rfl (fun _ _ => .v _)) ?_
 refine T2 (i := 1) rfl (heldB 0 rfl ag_87 (E rfl rfl) rfl (fun _ _ => .v _)) ?_
 refine T2 (i := 3) rfl (heldAll (freeMove rfl (E rfl rfl))) ?_
 refine T2 (i := 4) rfl (heldAll (freeMove rfl (E rfl rfl))) ?_
 refine AWH.one (i := 2) (by kernel_rfl) rfl ?_
 refine AWL.callE rfl rfl (B rfl) rfl ce_87 (E rfl rfl) (evsC (E rfl rfl) (evsC (E rfl rfl) evs0)) (F1 := [Ent.box b3 87 [.v (.pointer (some ⟨p, 0, none⟩))], Ent.box b2 93 (([.string ⟨#[]⟩, .int .i64 0, .int .i64 0, .int .i64 0, .slice none 0 0] : List Value).map T.v), Ent.box b1 3 [zi (1)]]) (S1 := (BdE p bd10 A10 c10)) rfl (cCell p (1 + 21) bd10 A10 c10 ok10 (by omega) (272)) ?_
 rintro t41 S41 ⟨d11, bd11, A11, c11, e11, ok11, rfl, rfl⟩
 refine AWL.nil (kpH (tcB 0 rfl rfl pinV (tcB 2 rfl rfl pinV (tc0))) ?_)
 refine AWH.one (i := 5) (by kernel_rfl) rfl ?_
 refine AWL.callE rfl rfl (B rfl) rfl ce_85 (E rfl rfl) (evsC (E rfl rfl) (evsC (E rfl rfl) (evsC (E rfl rfl) (evsC (E rfl rfl) (evsC (E rfl rfl) evs0))))) (F1 := [Ent.box b3 87 [.v (.pointer (some ⟨p, 0, none⟩))], Ent.box b2 93 (([.string ⟨#[]⟩, .int .i64 0, .int .i64 0, .int .i64 0, .slice none 0 0] : List Value).map T.v), Ent.box b1 3 [zi (1)]]) (S1 := (BdE p bd11 A11 c11)) rfl (cIf p (1 + 25) bd11 A11 c11 ok11 (by omega) (5) (d11) (d10) (d7)) ?_
 rintro t44 S44 ⟨d12, bd12, A12, c12, e12, ok12, rfl, rfl⟩
 refine AWL.nil (kpH (tcB 0 rfl rfl pinV (tcB 2 rfl rfl pinV (tc0))) ?_)
 refine AWH.done (by kernel_rfl) ?_
 refine rs (yl ag_87 0 ?_)
 refine ym ?_
 refine AWL.callE rfl rfl (B rfl) rfl ce_76 (E rfl rfl) (evsC (E rfl rfl) (evsC (E rfl rfl) (evsC (E rfl rfl) evs0))) (F1 := [Ent.box b3 87 [.v (.pointer (some ⟨p, 0, none⟩))], Ent.box b2 93 (([.string ⟨#[]⟩, .int .i64 0, .int .i64 0, .int .i64 0, .slice none 0 0] : List Value).map T.v), Ent.box b1 3 [zi (1)]]) (S1 := (BdE p bd12 A12 c12)) rfl (cSetCell p (1 + 26) bd12 A12 c12 ok12 (by omega) (264) (d10)) ?_
 rintro t47 S47 ⟨d13, bd13, A13, c13, e13, ok13, rfl, rfl⟩
 refine nl ?_
 refine rs (yl ag_87 0 ?_)
 refine ym ?_
 refine AWL.callE rfl rfl (B rfl) rfl ce_52 (E rfl rfl) (evsC (E rfl rfl) (evsC (E rfl rfl) evs0)) (F1 := [Ent.box b3 87 [.v (.pointer (some ⟨p, 0, none⟩))], Ent.box b2 93 (([.string ⟨#[]⟩, .int .i64 0, .int .i64 0, .int .i64 0, .slice none 0 0] : List Value).map T.v), Ent.box b1 3 [zi (1)]]) (S1 := (BdE p bd13 A13 c13)) rfl (cRet p (1 + 29) bd13 A13 c13 ok13 (by omega) (d9)) ?_
 rintro t50 S50 ⟨d14, bd14, A14, c14, e14, ok14, rfl, rfl⟩
 refine nl ?_
 refine rs (yl ag_87 0 ?_)
 refine ym ?_
 refine AWL.callE rfl rfl (B rfl) rfl ce_88 (E rfl rfl) (evsC (E rfl rfl) (evsC (E rfl rfl) evs0)) (F1 := [Ent.box b3 87 [.v (.pointer (some ⟨p, 0, none⟩))], Ent.box b2 93 (([.string ⟨#[]⟩, .int .i64 0, .int .i64 0, .int .i64 0, .slice none 0 0] : List Value).map T.v), Ent.box b1 3 [zi (1)]]) (S1 := (BdE p bd14 A14 c14)) rfl (cAt p (1 + 30) bd14 A14 c14 ok14 (by omega) (d7)) ?_
 rintro t53 S53 ⟨d15, bd15, A15, c15, e15, ok15, rfl, rfl⟩
 refine nl ?_
 refine rs (yl ag_87 0 ?_)
 refine yl ag_3 2 ?_
 refine Y1 (Yv.addN_i64 rfl eV eV (fun hg => by omega)) ?_
 refine AWL.callE rfl rfl (B rfl) rfl ce_33 (E rfl rfl) (evsC (E rfl rfl) (evsC (E rfl rfl) (evsC (E rfl rfl) evs0))) (F1 := [Ent.box b3 87 [.v (.pointer (some ⟨p, 0, none⟩))], Ent.box b2 93 (([.string ⟨#[]⟩, .int .i64 0, .int .i64 0, .int .i64 0, .slice none 0 0] : List Value).map T.v), Ent.box b1 3 [zi (1)]]) (S1 := (BdE p bd15 A15 c15)) rfl ((cCall p (1 + 31) bd15 A15 c15 ok15 (by omega) ((1 + 2)) []).le (.cons .refl (.cons .refl (.cons nilSl (.refl))))) ?_
 rintro t57 S57 ⟨d16, bd16, A16, c16, e16, ok16, rfl, rfl⟩
 refine nl ?_
 refine rs (yl ag_87 0 ?_)
 refine ym ?_
 refine AWL.callE rfl rfl (B rfl) rfl ce_89 (E rfl rfl) (evsC (E rfl rfl) (evsC (E rfl rfl) evs0)) (F1 := [Ent.box b3 87 [.v (.pointer (some ⟨p, 0, none⟩))], Ent.box b2 93 (([.string ⟨#[]⟩, .int .i64 0, .int .i64 0, .int .i64 0, .slice none 0 0] : List Value).map T.v), Ent.box b1 3 [zi (1)]]) (S1 := (BdE p bd16 A16 c16)) rfl (cJump p (1 + 33) bd16 A16 c16 ok16 (by omega) (d2)) ?_
 rintro t60 S60 ⟨d17, bd17, A17, c17, e17, ok17, rfl, rfl⟩
 refine nl ?_
 refine rs (yl ag_87 0 ?_)
 refine ym ?_
 refine AWL.callE rfl rfl (B rfl) rfl ce_88 (E rfl rfl) (evsC (E rfl rfl) (evsC (E rfl rfl) evs0)) (F1 := [Ent.box b3 87 [.v (.pointer (some ⟨p, 0, none⟩))], Ent.box b2 93 (([.string ⟨#[]⟩, .int .i64 0, .int .i64 0, .int .i64 0, .slice none 0 0] : List Value).map T.v), Ent.box b1 3 [zi (1)]]) (S1 := (BdE p bd17 A17 c17)) rfl (cAt p (1 + 34) bd17 A17 c17 ok17 (by omega) (d1)) ?_
 rintro t63 S63 ⟨d18, bd18, A18, c18, e18, ok18, rfl, rfl⟩
 refine nl ?_
 refine rs (yl ag_87 0 ?_)
 refine AWL.callE rfl rfl (B rfl) rfl ce_84 (E rfl rfl) (evsC (E rfl rfl) evs0) (F1 := [Ent.box b3 87 [.v (.pointer (some ⟨p, 0, none⟩))], Ent.box b2 93 (([.string ⟨#[]⟩, .int .i64 0, .int .i64 0, .int .i64 0, .slice none 0 0] : List Value).map T.v), Ent.box b1 3 [zi (1)]]) (S1 := (BdE p bd18 A18 c18)) rfl (cLabel p (1 + 35) bd18 A18 c18 ok18 (by omega) ) ?_
 rintro t65 S65 ⟨d19, bd19, A19, c19, e19, ok19, rfl, rfl⟩
 refine ya ?_
 refine AW.rseqH (HeldCs [(b3, 0, Value.pointer (some ⟨p, 0, none⟩)), (b1, 0, Value.int .i64 (1))]) rfl (tells_cs (tcB 0 rfl rfl pinV (tcB 2 rfl rfl pinV (tc0)))) ?_
 refine T2 (i := 0) rfl (heldB 0 rfl ag_87 (E rfl rfl) rfl (fun _ _ => .v _)) ?_
 refine T2 (i := 1) rfl (heldAll (freeMove rfl (E rfl rfl))) ?_
 refine T2 (i := 2) rfl (heldB 0 rfl ag_87 (E rfl rfl) rfl (fun _ _ => .v _)) ?_
 refine T2 (i := 3) rfl (heldB 0 rfl ag_87 (E rfl rfl) rfl (fun _ _ => .v _)) ?_
 refine T2 (i := 5) rfl (heldB 0 rfl ag_87 (E rfl rfl) rfl (fun _ _ => .v _)) ?_
 refine T2 (i := 8) rfl (heldAll (freeMove rfl (E rfl rfl))) ?_
 refine AWH.one (i := 4) (by kernel_rfl) rfl ?_
 refine AWL.callE rfl rfl (B rfl) rfl ce_87 (E rfl rfl) (evsC (E rfl rfl) (evsC (E rfl rfl) evs0)) (F1 := [Ent.box b3 87 [.v (.pointer (some ⟨p, 0, none⟩))], Ent.box b2 93 (([.string ⟨#[]⟩, .int .i64 0, .int .i64 0, .int .i64 0, .slice none 0 0] : List Value).map T.v), Ent.box b1 3 [zi (1)]]) (S1 := (BdE p bd19 A19 c19)) rfl (cCell p (1 + 36) bd19 A19 c19 ok19 (by omega) (296)) ?_
 rintro t70 S70 ⟨d20, bd20, A20, c20, e20, ok20, rfl, rfl⟩
 refine AWL.nil (kpH (tcB 0 rfl rfl pinV (tcB 2 rfl rfl pinV (tc0))) ?_)
 refine AWH.one (i := 6) (by kernel_rfl) rfl ?_
 refine AWL.callE rfl rfl (B rfl) rfl ce_87 (E rfl rfl) (evsC (E rfl rfl) (evsC (E rfl rfl) evs0)) (F1 := [Ent.box b3 87 [.v (.pointer (some ⟨p, 0, none⟩))], Ent.box b2 93 (([.string ⟨#[]⟩, .int .i64 0, .int .i64 0, .int .i64 0, .slice none 0 0] : List Value).map T.v), Ent.box b1 3 [zi (1)]]) (S1 := (BdE p bd20 A20 c20)) rfl (cCell p (1 + 40) bd20 A20 c20 ok20 (by omega) (288)) ?_
 rintro t72 S72 ⟨d21, bd21, A21, c21, e21, ok21, rfl, rfl⟩
 refine AWL.nil (kpH (tcB 0 rfl rfl pinV (tcB 2 rfl rfl pinV (tc0))) ?_)
 refine AWH.one (i := 7) (by kernel_rfl) rfl ?_
 refine AWL.callE rfl rfl (B rfl) rfl ce_86 (E rfl rfl) (evsC (E rfl rfl) (evsC (E rfl rfl) (evsC (E rfl rfl) evs0))) (F1 := [Ent.box b3 87 [.v (.pointer (some ⟨p, 0, none⟩))], Ent.box b2 93 (([.string ⟨#[]⟩, .int .i64 0, .int .i64 0, .int .i64 0, .slice none 0 0] : List Value).map T.v), Ent.box b1 3 [zi (1)]]) (S1 := (BdE p bd21 A21 c21)) rfl (cSub p (1 + 44) bd21 A21 c21 ok21 (by omega) (d20) (d21)) ?_
 rintro t73 S73 ⟨d22, bd22, A22, c22, e22, ok22, rfl, rfl⟩
 refine AWL.nil (kpH (tcB 0 rfl rfl pinV (tcB 2 rfl rfl pinV (tc0))) ?_)
 refine AWH.one (i := 9) (by kernel_rfl) rfl ?_
 refine AWL.callE rfl rfl (B rfl) rfl ce_85 (E rfl rfl) (evsC (E rfl rfl) (evsC (E rfl rfl) (evsC (E rfl rfl) (evsC (E rfl rfl) (evsC (E rfl rfl) evs0))))) (F1 := [Ent.box b3 87 [.v (.pointer (some ⟨p, 0, none⟩))], Ent.box b2 93 (([.string ⟨#[]⟩, .int .i64 0, .int .i64 0, .int .i64 0, .slice none 0 0] : List Value).map T.v), Ent.box b1 3 [zi (1)]]) (S1 := (BdE p bd22 A22 c22)) rfl (cIf p (1 + 46) bd22 A22 c22 ok22 (by omega) (6) (0) (d22) (d19)) ?_
 rintro t75 S75 ⟨d23, bd23, A23, c23, e23, ok23, rfl, rfl⟩
 refine AWL.nil (kpH (tcB 0 rfl rfl pinV (tcB 2 rfl rfl pinV (tc0))) ?_)
 refine AWH.done (by kernel_rfl) ?_
 refine rs (yl ag_87 0 ?_)
 refine yl ag_3 2 ?_
 refine Y1 (Yv.addN_i64 rfl eV eV (fun hg => by omega)) ?_
 refine AWL.callE rfl rfl (B rfl) rfl ce_33 (E rfl rfl) (evsC (E rfl rfl) (evsC (E rfl rfl) (evsC (E rfl rfl) evs0))) (F1 := [Ent.box b3 87 [.v (.pointer (some ⟨p, 0, none⟩))], Ent.box b2 93 (([.string ⟨#[]⟩, .int .i64 0, .int .i64 0, .int .i64 0, .slice none 0 0] : List Value).map T.v), Ent.box b1 3 [zi (1)]]) (S1 := (BdE p bd23 A23 c23)) rfl ((cCall p (1 + 47) bd23 A23 c23 ok23 (by omega) ((1 + 3)) []).le (.cons .refl (.cons .refl (.cons nilSl (.refl))))) ?_
 rintro t79 S79 ⟨d24, bd24, A24, c24, e24, ok24, rfl, rfl⟩
 refine nl ?_
 refine AW.rseqH (HeldCs [(b3, 0, Value.pointer (some ⟨p, 0, none⟩)), (b1, 0, Value.int .i64 (1))]) rfl (tells_cs (tcB 0 rfl rfl pinV (tcB 2 rfl rfl pinV (tc0)))) ?_
 refine T2 (i := 0) rfl (heldB 0 rfl ag_87 (E rfl rfl) rfl (fun _ _ => .v _)) ?_
 refine T2 (i := 1) rfl (heldB 0 rfl ag_87 (E rfl rfl) rfl (fun _ _ => .v _)) ?_
 refine T2 (i := 2) rfl (heldB 0 rfl ag_87 (E rfl rfl) rfl (fun _ _ => .v _)) ?_
 refine T2 (i := 4) rfl (heldB 0 rfl ag_87 (E rfl rfl) rfl (fun _ _ => .v _)) ?_
 refine T2 (i := 7) rfl (heldAll (freeMove rfl (E rfl rfl))) ?_
 refine T2 (i := 8) rfl (heldAll (freeMk rfl evs0 rfl (evsC (E rfl rfl) (evsC (E rfl rfl) evs0)) rfl)) ?_
 refine AWH.one (i := 3) (by kernel_rfl) rfl ?_
 refine AWL.callE rfl rfl (B rfl) rfl ce_87 (E rfl rfl) (evsC (E rfl rfl) (evsC (E rfl rfl) evs0)) (F1 := [Ent.box b3 87 [.v (.pointer (some ⟨p, 0, none⟩))], Ent.box b2 93 (([.string ⟨#[]⟩, .int .i64 0, .int .i64 0, .int .i64 0, .slice none 0 0] : List Value).map T.v), Ent.box b1 3 [zi (1)]]) (S1 := (BdE p bd24 A24 c24)) rfl (cCell p (1 + 49) bd24 A24 c24 ok24 (by omega) (296)) ?_
 rintro t83 S83 ⟨d25, bd25, A25, c25, e25, ok25, rfl, rfl⟩
 refine AWL.nil (kpH (tcB 0 rfl rfl pinV (tcB 2 rfl rfl pinV (tc0))) ?_)
 refine AWH.one (i := 5) (by kernel_rfl) rfl ?_
 refine AWL.callE rfl rfl (B rfl) rfl ce_87 (E rfl rfl) (evsC (E rfl rfl) (evsC (E rfl rfl) evs0)) (F1 := [Ent.box b3 87 [.v (.pointer (some ⟨p, 0, none⟩))], Ent.box b2 93 (([.string ⟨#[]⟩, .int .i64 0, .int .i64 0, .int .i64 0, .slice none 0 0] : List Value).map T.v), Ent.box b1 3 [zi (1)]]) (S1 := (BdE p bd25 A25 c25)) rfl (cCell p (1 + 53) bd25 A25 c25 ok25 (by omega) (288)) ?_
 rintro t85 S85 ⟨d26, bd26, A26, c26, e26, ok26, rfl, rfl⟩
 refine AWL.nil (kpH (tcB 0 rfl rfl pinV (tcB 2 rfl rfl pinV (tc0))) ?_)
 refine AWH.one (i := 6) (by kernel_rfl) rfl ?_
 refine AWL.callE rfl rfl (B rfl) rfl ce_86 (E rfl rfl) (evsC (E rfl rfl) (evsC (E rfl rfl) (evsC (E rfl rfl) evs0))) (F1 := [Ent.box b3 87 [.v (.pointer (some ⟨p, 0, none⟩))], Ent.box b2 93 (([.string ⟨#[]⟩, .int .i64 0, .int .i64 0, .int .i64 0, .slice none 0 0] : List Value).map T.v), Ent.box b1 3 [zi (1)]]) (S1 := (BdE p bd26 A26 c26)) rfl (cSub p (1 + 57) bd26 A26 c26 ok26 (by omega) (d25) (d26)) ?_
 rintro t86 S86 ⟨d27, bd27, A27, c27, e27, ok27, rfl, rfl⟩
 refine AWL.nil (kpH (tcB 0 rfl rfl pinV (tcB 2 rfl rfl pinV (tc0))) ?_)
 refine AWH.one (i := 9) (by kernel_rfl) rfl ?_
 refine AWL.callAll rfl rfl (B rfl) rfl ce_80 (E rfl rfl) (evsC (E rfl rfl) (evsC (E rfl rfl) (evsC (E rfl rfl) (evsC (E rfl rfl) (evsC (E rfl rfl) evs0))))) (cThen p (1 + 59) 1 bd27 A27 c27 ok27 (by omega) (5) (d27) (0) 90 #[.pointer (some ⟨b3, 0, none⟩), .pointer (some ⟨b1, 0, none⟩)] [Ent.box b3 87 [.v (.pointer (some ⟨p, 0, none⟩))], Ent.box b2 93 (([.string ⟨#[]⟩, .int .i64 0, .int .i64 0, .int .i64 0, .slice none 0 0] : List Value).map T.v), Ent.box b1 3 [zi (1)]] (mAlloc1 ) ce_90 (fun bd9 A9 c9 ok9 => cAlloc1 p _ bd9 A9 c9 ok9 (by omega) [Ent.box b3 87 [.v (.pointer (some ⟨p, 0, none⟩))], Ent.box b2 93 (([.string ⟨#[]⟩, .int .i64 0, .int .i64 0, .int .i64 0, .slice none 0 0] : List Value).map T.v), Ent.box b1 3 [zi (1)]] 0 b3 rfl 2 b1 rfl)) ?_
 rintro t89 S89 ⟨rfl, bd28, A28, c28, e28, ok28, rfl⟩
 refine AWL.nil (kpH (tcB 0 rfl rfl pinV (tcB 2 rfl rfl pinV (tc0))) ?_)
 refine AWH.done (by kernel_rfl) ?_
 refine rs (yl ag_87 0 ?_)
 refine ym ?_
 refine AWL.callE rfl rfl (B rfl) rfl ce_88 (E rfl rfl) (evsC (E rfl rfl) (evsC (E rfl rfl) evs0)) (F1 := [Ent.box b3 87 [.v (.pointer (some ⟨p, 0, none⟩))], Ent.box b2 93 (([.string ⟨#[]⟩, .int .i64 0, .int .i64 0, .int .i64 0, .slice none 0 0] : List Value).map T.v), Ent.box b1 3 [zi (1)]]) (S1 := (BdE p bd28 A28 c28)) rfl (cAt p (1 + 63) bd28 A28 c28 ok28 (by omega) (d19)) ?_
 rintro t92 S92 ⟨d29, bd29, A29, c29, e29, ok29, rfl, rfl⟩
 refine nl ?_
 refine rs (yl ag_87 0 ?_)
 refine AWL.callE rfl rfl (B rfl) rfl ce_87 (E rfl rfl) (evsC (E rfl rfl) (evsC (E rfl rfl) evs0)) (F1 := [Ent.box b3 87 [.v (.pointer (some ⟨p, 0, none⟩))], Ent.box b2 93 (([.string ⟨#[]⟩, .int .i64 0, .int .i64 0, .int .i64 0, .slice none 0 0] : List Value).map T.v), Ent.box b1 3 [zi (1)]]) (S1 := (BdE p bd29 A29 c29)) rfl (cCell p (1 + 64) bd29 A29 c29 ok29 (by omega) (288)) ?_
 rintro t94 S94 ⟨d30, bd30, A30, c30, e30, ok30, rfl, rfl⟩
 refine ya ?_
 refine AW.rseqH (HeldCs [(b3, 0, Value.pointer (some ⟨p, 0, none⟩)), (b1, 0, Value.int .i64 (1))]) rfl (tells_cs (tcB 0 rfl rfl pinV (tcB 2 rfl rfl pinV (tc0)))) ?_
 refine T2 (i := 0) rfl (heldB 0 rfl ag_87 (E rfl rfl) rfl (fun _ _ => .v _)) ?_
 refine T2 (i := 1) rfl (heldB 0 rfl ag_87 (E rfl rfl) rfl (fun _ _ => .v _)) ?_
 refine T2 (i := 2) rfl (heldAll (freeMove rfl (E rfl rfl))) ?_
 refine AWH.one (i := 3) (by kernel_rfl) rfl ?_
 refine ym ?_
 refine AWL.nil (kpH (tcB 0 rfl rfl pinV (tcB 2 rfl rfl pinV (tc0))) ?_)
 refine AWH.one (i := 4) (by kernel_rfl) rfl ?_
 refine AWL.callE rfl rfl (B rfl) rfl ce_83 (E rfl rfl) (evsC (E rfl rfl) (evsC (E rfl rfl) (evsC (E rfl rfl) evs0))) (F1 := [Ent.box b3 87 [.v (.pointer (some ⟨p, 0, none⟩))], Ent.box b2 93 (([.string ⟨#[]⟩, .int .i64 0, .int .i64 0, .int .i64 0, .slice none 0 0] : List Value).map T.v), Ent.box b1 3 [zi (1)]]) (S1 := (BdE p bd30 A30 c30)) rfl (cAdd p (1 + 68) bd30 A30 c30 ok30 (by omega) (d30) (0)) ?_
 rintro t99 S99 ⟨d31, bd31, A31, c31, e31, ok31, rfl, rfl⟩
 refine AWL.nil (kpH (tcB 0 rfl rfl pinV (tcB 2 rfl rfl pinV (tc0))) ?_)
 refine AWH.one (i := 5) (by kernel_rfl) rfl ?_
 refine AWL.callE rfl rfl (B rfl) rfl ce_76 (E rfl rfl) (evsC (E rfl rfl) (evsC (E rfl rfl) (evsC (E rfl rfl) evs0))) (F1 := [Ent.box b3 87 [.v (.pointer (some ⟨p, 0, none⟩))], Ent.box b2 93 (([.string ⟨#[]⟩, .int .i64 0, .int .i64 0, .int .i64 0, .slice none 0 0] : List Value).map T.v), Ent.box b1 3 [zi (1)]]) (S1 := (BdE p bd31 A31 c31)) rfl (cSetCell p (1 + 70) bd31 A31 c31 ok31 (by omega) (288) (d31)) ?_
 rintro t100 S100 ⟨d32, bd32, A32, c32, e32, ok32, rfl, rfl⟩
 refine AWL.nil (kpH (tcB 0 rfl rfl pinV (tcB 2 rfl rfl pinV (tc0))) ?_)
 refine AWH.done (by kernel_rfl) ?_
 refine rs (yl ag_87 0 ?_)
 refine AWL.callE rfl rfl (B rfl) rfl ce_87 (E rfl rfl) (evsC (E rfl rfl) (evsC (E rfl rfl) evs0)) (F1 := [Ent.box b3 87 [.v (.pointer (some ⟨p, 0, none⟩))], Ent.box b2 93 (([.string ⟨#[]⟩, .int .i64 0, .int .i64 0, .int .i64 0, .slice none 0 0] : List Value).map T.v), Ent.box b1 3 [zi (1)]]) (S1 := (BdE p bd32 A32 c32)) rfl (cCell p (1 + 73) bd32 A32 c32 ok32 (by omega) (320)) ?_
 rintro t102 S102 ⟨d33, bd33, A33, c33, e33, ok33, rfl, rfl⟩
 refine ya ?_
 refine rs (yl ag_87 0 ?_)
 refine ym ?_
 refine ym ?_
 refine AWL.callE rfl rfl (B rfl) rfl ce_92 (E rfl rfl) (evsC (E rfl rfl) (evsC (E rfl rfl) (evsC (E rfl rfl) (evsC (E rfl rfl) evs0)))) (F1 := [Ent.box b3 87 [.v (.pointer (some ⟨p, 0, none⟩))], Ent.box b2 93 (([.string ⟨#[]⟩, .int .i64 0, .int .i64 0, .int .i64 0, .slice none 0 0] : List Value).map T.v), Ent.box b1 3 [zi (1)]]) (S1 := (BdE p bd33 A33 c33)) rfl (cSave p (1 + 77) bd33 A33 c33 ok33 (by omega) (d33) (0) (d30)) ?_
 rintro t106 S106 ⟨d34, bd34, A34, c34, e34, ok34, rfl, rfl⟩
 refine nl ?_
 refine AW.rseqH (HeldCs [(b3, 0, Value.pointer (some ⟨p, 0, none⟩)), (b1, 0, Value.int .i64 (1))]) rfl (tells_cs (tcB 0 rfl rfl pinV (tcB 2 rfl rfl pinV (tc0)))) ?_
 refine T2 (i := 0) rfl (heldB 0 rfl ag_87 (E rfl rfl) rfl (fun _ _ => .v _)) ?_
 refine T2 (i := 1) rfl (heldB 0 rfl ag_87 (E rfl rfl) rfl (fun _ _ => .v _)) ?_
 refine AWH.one (i := 2) (by kernel_rfl) rfl ?_
 refine ym ?_
 refine AWL.nil (kpH (tcB 0 rfl rfl pinV (tcB 2 rfl rfl pinV (tc0))) ?_)
 refine AWH.one (i := 3) (by kernel_rfl) rfl ?_
 refine AWL.callE rfl rfl (B rfl) rfl ce_93 (E rfl rfl) (evsC (E rfl rfl) (evsC (E rfl rfl) (evsC (E rfl rfl) evs0))) (F1 := [Ent.box b3 87 [.v (.pointer (some ⟨p, 0, none⟩))], Ent.box b2 93 (([.string ⟨#[]⟩, .int .i64 0, .int .i64 0, .int .i64 0, .slice none 0 0] : List Value).map T.v), Ent.box b1 3 [zi (1)]]) (S1 := (BdE p bd34 A34 c34)) rfl (cAddC p (1 + 78) bd34 A34 c34 ok34 (by omega) (d33) (8)) ?_
 rintro t110 S110 ⟨d35, bd35, A35, c35, e35, ok35, rfl, rfl⟩
 refine AWL.nil (kpH (tcB 0 rfl rfl pinV (tcB 2 rfl rfl pinV (tc0))) ?_)
 refine AWH.one (i := 4) (by kernel_rfl) rfl ?_
 refine AWL.callE rfl rfl (B rfl) rfl ce_76 (E rfl rfl) (evsC (E rfl rfl) (evsC (E rfl rfl) (evsC (E rfl rfl) evs0))) (F1 := [Ent.box b3 87 [.v (.pointer (some ⟨p, 0, none⟩))], Ent.box b2 93 (([.string ⟨#[]⟩, .int .i64 0, .int .i64 0, .int .i64 0, .slice none 0 0] : List Value).map T.v), Ent.box b1 3 [zi (1)]]) (S1 := (BdE p bd35 A35 c35)) rfl (cSetCell p (1 + 82) bd35 A35 c35 ok35 (by omega) (320) (d35)) ?_
 rintro t111 S111 ⟨d36, bd36, A36, c36, e36, ok36, rfl, rfl⟩
 refine AWL.nil (kpH (tcB 0 rfl rfl pinV (tcB 2 rfl rfl pinV (tc0))) ?_)
 refine AWH.done (by kernel_rfl) ?_
 refine AW.rseqH (HeldCs [(b3, 0, Value.pointer (some ⟨p, 0, none⟩)), (b1, 0, Value.int .i64 (1))]) rfl (tells_cs (tcB 0 rfl rfl pinV (tcB 2 rfl rfl pinV (tc0)))) ?_
 refine T2 (i := 0) rfl (heldB 0 rfl ag_87 (E rfl rfl) rfl (fun _ _ => .v _)) ?_
 refine T2 (i := 1) rfl (heldAll (freeMove rfl (E rfl rfl))) ?_
 refine AWH.one (i := 2) (by kernel_rfl) rfl ?_
 refine yl ag_87 0 ?_
 refine AWL.nil (kpH (tcB 0 rfl rfl pinV (tcB 2 rfl rfl pinV (tc0))) ?_)
 refine AWH.one (i := 3) (by kernel_rfl) rfl ?_
 refine AWL.callE rfl rfl (B rfl) rfl ce_53 (E rfl rfl) (evsC (E rfl rfl) (evsC (E rfl rfl) evs0)) (F1 := [Ent.box b3 87 [.v (.pointer (some ⟨p, 0, none⟩))], Ent.box b2 93 (([.string ⟨#[]⟩, .int .i64 0, .int .i64 0, .int .i64 0, .slice none 0 0] : List Value).map T.v), Ent.box b1 3 [zi (1)]]) (S1 := (BdE p bd36 A36 c36)) rfl (cC p (1 + 85) bd36 A36 c36 ok36 (by omega) (37)) ?_
 rintro t115 S115 ⟨d37, bd37, A37, c37, e37, ok37, rfl, rfl⟩
 refine AWL.nil (kpH (tcB 0 rfl rfl pinV (tcB 2 rfl rfl pinV (tc0))) ?_)
 refine AWH.one (i := 4) (by kernel_rfl) rfl ?_
 refine AWL.callE rfl rfl (B rfl) rfl ce_92 (E rfl rfl) (evsC (E rfl rfl) (evsC (E rfl rfl) (evsC (E rfl rfl) (evsC (E rfl rfl) evs0)))) (F1 := [Ent.box b3 87 [.v (.pointer (some ⟨p, 0, none⟩))], Ent.box b2 93 (([.string ⟨#[]⟩, .int .i64 0, .int .i64 0, .int .i64 0, .slice none 0 0] : List Value).map T.v), Ent.box b1 3 [zi (1)]]) (S1 := (BdE p bd37 A37 c37)) rfl (cSave p (1 + 87) bd37 A37 c37 ok37 (by omega) (d30) (0) (d37)) ?_
 rintro t116 S116 ⟨d38, bd38, A38, c38, e38, ok38, rfl, rfl⟩
 refine AWL.nil (kpH (tcB 0 rfl rfl pinV (tcB 2 rfl rfl pinV (tc0))) ?_)
 refine AWH.done (by kernel_rfl) ?_
 refine rs (yl ag_87 0 ?_)
 refine ym ?_
 refine AWL.callE rfl rfl (B rfl) rfl ce_52 (E rfl rfl) (evsC (E rfl rfl) (evsC (E rfl rfl) evs0)) (F1 := [Ent.box b3 87 [.v (.pointer (some ⟨p, 0, none⟩))], Ent.box b2 93 (([.string ⟨#[]⟩, .int .i64 0, .int .i64 0, .int .i64 0, .slice none 0 0] : List Value).map T.v), Ent.box b1 3 [zi (1)]]) (S1 := (BdE p bd38 A38 c38)) rfl (cRet p (1 + 88) bd38 A38 c38 ok38 (by omega) (d30)) ?_
 rintro t119 S119 ⟨d39, bd39, A39, c39, e39, ok39, rfl, rfl⟩
 refine nl ?_
 refine rs (yl ag_87 0 ?_)
 refine AWL.callE rfl rfl (B rfl) rfl ce_35 (E rfl rfl) (evsC (E rfl rfl) evs0) (F1 := [Ent.box b3 87 [.v (.pointer (some ⟨p, 0, none⟩))], Ent.box b2 93 (([.string ⟨#[]⟩, .int .i64 0, .int .i64 0, .int .i64 0, .slice none 0 0] : List Value).map T.v), Ent.box b1 3 [zi (1)]]) (S1 := (BdE p bd39 A39 c39)) rfl (cDone p bd39 A39 c39) ?_
 rintro t121 S121 ⟨rfl, rfl⟩
 refine AWL.storeBox (i := 1) rfl rfl rfl ag_93 rfl (E rfl rfl) (E rfl rfl) rfl rfl nB (nl ?_)
 refine AW.ret (retI (.cellA (i := 1) rfl ag_93 rfl rfl rfl .nil) ?_)
 show _ = T.agg (fnCells (fnB (mAllocFn (bd0 [103, 99, 46, 97, 108, 108, 111, 99] 1)).2))
 rw [show mAllocFn (bd0 [103, 99, 46, 97, 108, 108, 111, 99] 1) = ((), bd39) from (bq e1).trans ((bq e2).trans ((bq e3).trans ((bq e4).trans ((bq e5).trans ((bq e6).trans ((bq e7).trans ((bq e8).trans ((bq e9).trans ((bq e10).trans ((bq e11).trans ((bq e12).trans ((bq e13).trans ((bq e14).trans ((bq e15).trans ((bq e16).trans ((bq e17).trans ((bq e18).trans ((bq e19).trans ((bq e20).trans ((bq e21).trans ((bq e22).trans ((bq e23).trans ((bq e24).trans ((bq e25).trans ((bq e26).trans ((bq e27).trans ((bq e28).trans ((bq e29).trans ((bq e30).trans ((bq e31).trans ((bq e32).trans ((bq e33).trans ((bq e34).trans ((bq e35).trans ((bq e36).trans ((bq e37).trans ((bq e38).trans (e39))))))))))))))))))))))))))))))))))))))]
 rfl

theorem cAllocFn : ACalls Tryz.prog 55 [zi 1] [] (fun t S => t = .agg (fnCells fAllocFn) ∧ S = []) := (cAllocFn_).less fun t S' h => ⟨[], List.nil_sublist _, h, rfl⟩
def mMinorFn : BM Unit :=
 bnd (mCell (264)) fun d1 =>
 bnd (mCell (256)) fun d2 =>
 bnd (mSub (d1) (d2)) fun d3 =>
 bnd (mCell (296)) fun d4 =>
 bnd (mCell (288)) fun d5 =>
 bnd (mSub (d4) (d5)) fun d6 =>
 bnd (mThen (5) (d6) (d3) (mMinor1 )) fun _ =>
 bnd (mCell (256)) fun d8 =>
 bnd (mSetCell (344) (d8)) fun _ =>
 bnd (mCell (272)) fun d10 =>
 bnd (mCell (256)) fun d11 =>
 bnd (mSub (d10) (d11)) fun d12 =>
 bnd (mSetCell (352) (d12)) fun _ =>
 bnd (mC (0)) fun d14 =>
 bnd (mSetCell (360) (d14)) fun _ =>
 bnd (mSetCell (368) (d14)) fun _ =>
 bnd (mCell (288)) fun d17 =>
 bnd (mSetCell (328) (d17)) fun _ =>
 bnd (mCell (296)) fun d19 =>
 bnd (mSetCell (336) (d19)) fun _ =>
 bnd (mCall ((1 + 10)) [d17]) fun d21 =>
 bnd (mCell (328)) fun d22 =>
 bnd (mSetCell (288) (d22)) fun _ =>
 bnd (mEmptied ) fun _ =>
 mRetC (1)
def fMinorFn : Fn := fnB (mMinorFn (bd0 [103, 99, 46, 109, 105, 110, 111, 114] 0)).2
set_option maxHeartbeats 16000000 in
theorem cMinorFn_  :
    ACalls Tryz.prog 56 [zi 1] [] (fun t S => t = .agg (fnCells (fMinorFn))) := by
 refine ACalls.intro Tryz.func56 rfl Tryz.ntmps56 nB rfl fun X w0 => ?_
 refine rs ?_
 refine AWL.boxOp rfl rfl (B rfl) rfl (E rfl rfl) rfl (fun b1 => ?_)
 refine AWL.perm (List.perm_append_singleton _ _).symm ?_
 refine AWL.allocOp rfl rfl (B rfl) rfl zc_93 (fun b2 => ?_)
 refine AWL.perm (List.perm_append_singleton _ _).symm (nl ?_)
 refine rs ?_
 refine AWL.callE rfl rfl (B rfl) rfl ce_32 (E rfl rfl) (evsC (E rfl rfl) (evsC (E rfl rfl) evs0)) (F1 := [Ent.box b2 93 (([.string ⟨#[]⟩, .int .i64 0, .int .i64 0, .int .i64 0, .slice none 0 0] : List Value).map T.v), Ent.box b1 3 [zi (1)]]) (S1 := []) rfl (cNew [103, 99, 46, 109, 105, 110, 111, 114] 0) ?_
 rintro t8 S8 ⟨p, rfl, rfl⟩
 have ok0 : BdOk 1 (bd0 [103, 99, 46, 109, 105, 110, 111, 114] 0) := ⟨by decide, by decide, by decide, by decide, by decide, by decide, by decide⟩
 refine AWL.allocOp rfl rfl (B rfl) rfl zc_87 (fun b3 => ?_)
 refine AWL.perm (List.perm_append_singleton _ _).symm ?_
 refine AWL.storeBox (i := 0) rfl rfl rfl ag_87 rfl (E rfl rfl) (E rfl rfl) rfl rfl nB (nl ?_)
 refine AW.rseqH (HeldCs [(b3, 0, Value.pointer (some ⟨p, 0, none⟩)), (b1, 0, Value.int .i64 (1))]) rfl (tells_cs (tcB 0 rfl rfl pinV (tcB 2 rfl rfl pinV (tc0)))) ?_
 refine T2 (i := 0) rfl (heldB 0 rfl ag_87 (E rfl rfl) rfl (fun _ _ => .v _)) ?_
 refine T2 (i := 1) rfl (heldB 0 rfl ag_87 (E rfl rfl) rfl (fun _ _ => .v _)) ?_
 refine T2 (i := 3) rfl (heldB 0 rfl ag_87 (E rfl rfl) rfl (fun _ _ => .v _)) ?_
 refine AWH.one (i := 2) (by kernel_rfl) rfl ?_
 refine AWL.callE rfl rfl (B rfl) rfl ce_87 (E rfl rfl) (evsC (E rfl rfl) (evsC (E rfl rfl) evs0)) (F1 := [Ent.box b3 87 [.v (.pointer (some ⟨p, 0, none⟩))], Ent.box b2 93 (([.string ⟨#[]⟩, .int .i64 0, .int .i64 0, .int .i64 0, .slice none 0 0] : List Value).map T.v), Ent.box b1 3 [zi (1)]]) (S1 := (BdE p (bd0 [103, 99, 46, 109, 105, 110, 111, 114] 0) none 0)) rfl (cCell p 1 (bd0 [103, 99, 46, 109, 105, 110, 111, 114] 0) none 0 ok0 (by omega) (264)) ?_
 rintro t11 S11 ⟨d1, bd1, A1, c1, e1, ok1, rfl, rfl⟩
 refine AWL.nil (kpH (tcB 0 rfl rfl pinV (tcB 2 rfl rfl pinV (tc0))) ?_)
 refine AWH.one (i := 4) (by kernel_rfl) rfl ?_
 refine AWL.callE rfl rfl (B rfl) rfl ce_87 (E rfl rfl) (evsC (E rfl rfl) (evsC (E rfl rfl) evs0)) (F1 := [Ent.box b3 87 [.v (.pointer (some ⟨p, 0, none⟩))], Ent.box b2 93 (([.string ⟨#[]⟩, .int .i64 0, .int .i64 0, .int .i64 0, .slice none 0 0] : List Value).map T.v), Ent.box b1 3 [zi (1)]]) (S1 := (BdE p bd1 A1 c1)) rfl (cCell p (1 + 4) bd1 A1 c1 ok1 (by omega) (256)) ?_
 rintro t13 S13 ⟨d2, bd2, A2, c2, e2, ok2, rfl, rfl⟩
 refine AWL.nil (kpH (tcB 0 rfl rfl pinV (tcB 2 rfl rfl pinV (tc0))) ?_)
 refine AWH.one (i := 5) (by kernel_rfl) rfl ?_
 refine AWL.callE rfl rfl (B rfl) rfl ce_86 (E rfl rfl) (evsC (E rfl rfl) (evsC (E rfl rfl) (evsC (E rfl rfl) evs0))) (F1 := [Ent.box b3 87 [.v (.pointer (some ⟨p, 0, none⟩))], Ent.box b2 93 (([.string ⟨#[]⟩, .int .i64 0, .int .i64 0, .int .i64 0, .slice none 0 0] : List Value).map T.v), Ent.box b1 3 [zi (1)]]) (S1 := (BdE p bd2 A2 c2)) rfl (cSub p (1 + 8) bd2 A2 c2 ok2 (by omega) (d1) (d2)) ?_
 rintro t14 S14 ⟨d3, bd3, A3, c3, e3, ok3, rfl, rfl⟩
 refine AWL.nil (kpH (tcB 0 rfl rfl pinV (tcB 2 rfl rfl pinV (tc0))) ?_)
 refine AWH.one (i := 6) (by kernel_rfl) rfl ?_
 refine Y1 (Yv.assign rfl eV) ?_
 refine AWL.nil (kpH (tcB 0 rfl rfl pinV (tcB 2 rfl rfl pinV (tc0))) ?_)
 refine AWH.done (by kernel_rfl) ?_
 refine AW.rseqH (HeldCs [(b3, 0, Value.pointer (some ⟨p, 0, none⟩)), (b1, 0, Value.int .i64 (1))]) rfl (tells_cs (tcB 0 rfl rfl pinV (tcB 2 rfl rfl pinV (tc0)))) ?_
 refine T2 (i := 0) rfl (heldB 0 rfl ag_87 (E rfl rfl) rfl (fun _ _ => .v _)) ?_
 refine T2 (i := 1) rfl (heldB 0 rfl ag_87 (E rfl rfl) rfl (fun _ _ => .v _)) ?_
 refine T2 (i := 3) rfl (heldB 0 rfl ag_87 (E rfl rfl) rfl (fun _ _ => .v _)) ?_
 refine AWH.one (i := 2) (by kernel_rfl) rfl ?_
 refine AWL.callE rfl rfl (B rfl) rfl ce_87 (E rfl rfl) (evsC (E rfl rfl) (evsC (E rfl rfl) evs0)) (F1 := [Ent.box b3 87 [.v (.pointer (some ⟨p, 0, none⟩))], Ent.box b2 93 (([.string ⟨#[]⟩, .int .i64 0, .int .i64 0, .int .i64 0, .slice none 0 0] : List Value).map T.v), Ent.box b1 3 [zi (1)]]) (S1 := (BdE p bd3 A3 c3)) rfl (cCell p (1 + 10) bd3 A3 c3 ok3 (by omega) (296)) ?_
 rintro t17 S17 ⟨d4, bd4, A4, c4, e4, ok4, rfl, rfl⟩
 refine AWL.nil (kpH (tcB 0 rfl rfl pinV (tcB 2 rfl rfl pinV (tc0))) ?_)
 refine AWH.one (i := 4) (by kernel_rfl) rfl ?_
 refine AWL.callE rfl rfl (B rfl) rfl ce_87 (E rfl rfl) (evsC (E rfl rfl) (evsC (E rfl rfl) evs0)) (F1 := [Ent.box b3 87 [.v (.pointer (some ⟨p, 0, none⟩))], Ent.box b2 93 (([.string ⟨#[]⟩, .int .i64 0, .int .i64 0, .int .i64 0, .slice none 0 0] : List Value).map T.v), Ent.box b1 3 [zi (1)]]) (S1 := (BdE p bd4 A4 c4)) rfl (cCell p (1 + 14) bd4 A4 c4 ok4 (by omega) (288)) ?_
 rintro t19 S19 ⟨d5, bd5, A5, c5, e5, ok5, rfl, rfl⟩
 refine AWL.nil (kpH (tcB 0 rfl rfl pinV (tcB 2 rfl rfl pinV (tc0))) ?_)
 refine AWH.one (i := 5) (by kernel_rfl) rfl ?_
 refine AWL.callE rfl rfl (B rfl) rfl ce_86 (E rfl rfl) (evsC (E rfl rfl) (evsC (E rfl rfl) (evsC (E rfl rfl) evs0))) (F1 := [Ent.box b3 87 [.v (.pointer (some ⟨p, 0, none⟩))], Ent.box b2 93 (([.string ⟨#[]⟩, .int .i64 0, .int .i64 0, .int .i64 0, .slice none 0 0] : List Value).map T.v), Ent.box b1 3 [zi (1)]]) (S1 := (BdE p bd5 A5 c5)) rfl (cSub p (1 + 18) bd5 A5 c5 ok5 (by omega) (d4) (d5)) ?_
 rintro t20 S20 ⟨d6, bd6, A6, c6, e6, ok6, rfl, rfl⟩
 refine AWL.nil (kpH (tcB 0 rfl rfl pinV (tcB 2 rfl rfl pinV (tc0))) ?_)
 refine AWH.one (i := 6) (by kernel_rfl) rfl ?_
 refine Y1 (Yv.assign rfl eV) ?_
 refine AWL.nil (kpH (tcB 0 rfl rfl pinV (tcB 2 rfl rfl pinV (tc0))) ?_)
 refine AWH.done (by kernel_rfl) ?_
 refine rs (yl ag_87 0 ?_)
 refine ym ?_
 refine ym ?_
 refine Y1 (Yv.makeFunc rfl evs0 rfl (evsC eV (evsC eV evs0)) rfl) ?_
 refine AWL.callAll rfl rfl (B rfl) rfl ce_80 (E rfl rfl) (evsC (E rfl rfl) (evsC (E rfl rfl) (evsC (E rfl rfl) (evsC (E rfl rfl) (evsC (E rfl rfl) evs0))))) (cThen p (1 + 20) 1 bd6 A6 c6 ok6 (by omega) (5) (d6) (d3) 94 #[.pointer (some ⟨b3, 0, none⟩), .pointer (some ⟨b1, 0, none⟩)] [Ent.box b3 87 [.v (.pointer (some ⟨p, 0, none⟩))], Ent.box b2 93 (([.string ⟨#[]⟩, .int .i64 0, .int .i64 0, .int .i64 0, .slice none 0 0] : List Value).map T.v), Ent.box b1 3 [zi (1)]] (mMinor1 ) ce_94 (fun bd9 A9 c9 ok9 => cMinor1 p _ bd9 A9 c9 ok9 (by omega) [Ent.box b3 87 [.v (.pointer (some ⟨p, 0, none⟩))], Ent.box b2 93 (([.string ⟨#[]⟩, .int .i64 0, .int .i64 0, .int .i64 0, .slice none 0 0] : List Value).map T.v), Ent.box b1 3 [zi (1)]] 0 b3 rfl 2 b1 rfl)) ?_
 rintro t25 S25 ⟨rfl, bd7, A7, c7, e7, ok7, rfl⟩
 refine nl ?_
 refine AW.rseqH (HeldCs [(b3, 0, Value.pointer (some ⟨p, 0, none⟩)), (b1, 0, Value.int .i64 (1))]) rfl (tells_cs (tcB 0 rfl rfl pinV (tcB 2 rfl rfl pinV (tc0)))) ?_
 refine T2 (i := 0) rfl (heldB 0 rfl ag_87 (E rfl rfl) rfl (fun _ _ => .v _)) ?_
 refine AWH.one (i := 1) (by kernel_rfl) rfl ?_
 refine yl ag_87 0 ?_
 refine AWL.nil (kpH (tcB 0 rfl rfl pinV (tcB 2 rfl rfl pinV (tc0))) ?_)
 refine AWH.one (i := 2) (by kernel_rfl) rfl ?_
 refine AWL.callE rfl rfl (B rfl) rfl ce_87 (E rfl rfl) (evsC (E rfl rfl) (evsC (E rfl rfl) evs0)) (F1 := [Ent.box b3 87 [.v (.pointer (some ⟨p, 0, none⟩))], Ent.box b2 93 (([.string ⟨#[]⟩, .int .i64 0, .int .i64 0, .int .i64 0, .slice none 0 0] : List Value).map T.v), Ent.box b1 3 [zi (1)]]) (S1 := (BdE p bd7 A7 c7)) rfl (cCell p (1 + 24) bd7 A7 c7 ok7 (by omega) (256)) ?_
 rintro t28 S28 ⟨d8, bd8, A8, c8, e8, ok8, rfl, rfl⟩
 refine AWL.nil (kpH (tcB 0 rfl rfl pinV (tcB 2 rfl rfl pinV (tc0))) ?_)
 refine AWH.one (i := 3) (by kernel_rfl) rfl ?_
 refine AWL.callE rfl rfl (B rfl) rfl ce_76 (E rfl rfl) (evsC (E rfl rfl) (evsC (E rfl rfl) (evsC (E rfl rfl) evs0))) (F1 := [Ent.box b3 87 [.v (.pointer (some ⟨p, 0, none⟩))], Ent.box b2 93 (([.string ⟨#[]⟩, .int .i64 0, .int .i64 0, .int .i64 0, .slice none 0 0] : List Value).map T.v), Ent.box b1 3 [zi (1)]]) (S1 := (BdE p bd8 A8 c8)) rfl (cSetCell p (1 + 28) bd8 A8 c8 ok8 (by omega) (344) (d8)) ?_
 rintro t29 S29 ⟨d9, bd9, A9, c9, e9, ok9, rfl, rfl⟩
 refine AWL.nil (kpH (tcB 0 rfl rfl pinV (tcB 2 rfl rfl pinV (tc0))) ?_)
 refine AWH.done (by kernel_rfl) ?_
 refine AW.rseqH (HeldCs [(b3, 0, Value.pointer (some ⟨p, 0, none⟩)), (b1, 0, Value.int .i64 (1))]) rfl (tells_cs (tcB 0 rfl rfl pinV (tcB 2 rfl rfl pinV (tc0)))) ?_
 refine T2 (i := 0) rfl (heldB 0 rfl ag_87 (E rfl rfl) rfl (fun _ _ => .v _)) ?_
 refine T2 (i := 1) rfl (heldB 0 rfl ag_87 (E rfl rfl) rfl (fun _ _ => .v _)) ?_
 refine T2 (i := 2) rfl (heldB 0 rfl ag_87 (E rfl rfl) rfl (fun _ _ => .v _)) ?_
 refine T2 (i := 4) rfl (heldB 0 rfl ag_87 (E rfl rfl) rfl (fun _ _ => .v _)) ?_
 refine AWH.one (i := 3) (by kernel_rfl) rfl ?_
 refine AWL.callE rfl rfl (B rfl) rfl ce_87 (E rfl rfl) (evsC (E rfl rfl) (evsC (E rfl rfl) evs0)) (F1 := [Ent.box b3 87 [.v (.pointer (some ⟨p, 0, none⟩))], Ent.box b2 93 (([.string ⟨#[]⟩, .int .i64 0, .int .i64 0, .int .i64 0, .slice none 0 0] : List Value).map T.v), Ent.box b1 3 [zi (1)]]) (S1 := (BdE p bd9 A9 c9)) rfl (cCell p (1 + 31) bd9 A9 c9 ok9 (by omega) (272)) ?_
 rintro t33 S33 ⟨d10, bd10, A10, c10, e10, ok10, rfl, rfl⟩
 refine AWL.nil (kpH (tcB 0 rfl rfl pinV (tcB 2 rfl rfl pinV (tc0))) ?_)
 refine AWH.one (i := 5) (by kernel_rfl) rfl ?_
 refine AWL.callE rfl rfl (B rfl) rfl ce_87 (E rfl rfl) (evsC (E rfl rfl) (evsC (E rfl rfl) evs0)) (F1 := [Ent.box b3 87 [.v (.pointer (some ⟨p, 0, none⟩))], Ent.box b2 93 (([.string ⟨#[]⟩, .int .i64 0, .int .i64 0, .int .i64 0, .slice none 0 0] : List Value).map T.v), Ent.box b1 3 [zi (1)]]) (S1 := (BdE p bd10 A10 c10)) rfl (cCell p (1 + 35) bd10 A10 c10 ok10 (by omega) (256)) ?_
 rintro t35 S35 ⟨d11, bd11, A11, c11, e11, ok11, rfl, rfl⟩
 refine AWL.nil (kpH (tcB 0 rfl rfl pinV (tcB 2 rfl rfl pinV (tc0))) ?_)
 refine AWH.one (i := 6) (by kernel_rfl) rfl ?_
 refine AWL.callE rfl rfl (B rfl) rfl ce_86 (E rfl rfl) (evsC (E rfl rfl) (evsC (E rfl rfl) (evsC (E rfl rfl) evs0))) (F1 := [Ent.box b3 87 [.v (.pointer (some ⟨p, 0, none⟩))], Ent.box b2 93 (([.string ⟨#[]⟩, .int .i64 0, .int .i64 0, .int .i64 0, .slice none 0 0] : List Value).map T.v), Ent.box b1 3 [zi (1)]]) (S1 := (BdE p bd11 A11 c11)) rfl (cSub p (1 + 39) bd11 A11 c11 ok11 (by omega) (d10) (d11)) ?_
 rintro t36 S36 ⟨d12, bd12, A12, c12, e12, ok12, rfl, rfl⟩
 refine AWL.nil (kpH (tcB 0 rfl rfl pinV (tcB 2 rfl rfl pinV (tc0))) ?_)
 refine AWH.one (i := 7) (by kernel_rfl) rfl ?_
 refine AWL.callE rfl rfl (B rfl) rfl ce_76 (E rfl rfl) (evsC (E rfl rfl) (evsC (E rfl rfl) (evsC (E rfl rfl) evs0))) (F1 := [Ent.box b3 87 [.v (.pointer (some ⟨p, 0, none⟩))], Ent.box b2 93 (([.string ⟨#[]⟩, .int .i64 0, .int .i64 0, .int .i64 0, .slice none 0 0] : List Value).map T.v), Ent.box b1 3 [zi (1)]]) (S1 := (BdE p bd12 A12 c12)) rfl (cSetCell p (1 + 41) bd12 A12 c12 ok12 (by omega) (352) (d12)) ?_
 rintro t37 S37 ⟨d13, bd13, A13, c13, e13, ok13, rfl, rfl⟩
 refine AWL.nil (kpH (tcB 0 rfl rfl pinV (tcB 2 rfl rfl pinV (tc0))) ?_)
 refine AWH.done (by kernel_rfl) ?_
 refine rs (yl ag_87 0 ?_)
 refine AWL.callE rfl rfl (B rfl) rfl ce_53 (E rfl rfl) (evsC (E rfl rfl) (evsC (E rfl rfl) evs0)) (F1 := [Ent.box b3 87 [.v (.pointer (some ⟨p, 0, none⟩))], Ent.box b2 93 (([.string ⟨#[]⟩, .int .i64 0, .int .i64 0, .int .i64 0, .slice none 0 0] : List Value).map T.v), Ent.box b1 3 [zi (1)]]) (S1 := (BdE p bd13 A13 c13)) rfl (cC p (1 + 44) bd13 A13 c13 ok13 (by omega) (0)) ?_
 rintro t39 S39 ⟨d14, bd14, A14, c14, e14, ok14, rfl, rfl⟩
 refine ya ?_
 refine rs (yl ag_87 0 ?_)
 refine ym ?_
 refine AWL.callE rfl rfl (B rfl) rfl ce_76 (E rfl rfl) (evsC (E rfl rfl) (evsC (E rfl rfl) (evsC (E rfl rfl) evs0))) (F1 := [Ent.box b3 87 [.v (.pointer (some ⟨p, 0, none⟩))], Ent.box b2 93 (([.string ⟨#[]⟩, .int .i64 0, .int .i64 0, .int .i64 0, .slice none 0 0] : List Value).map T.v), Ent.box b1 3 [zi (1)]]) (S1 := (BdE p bd14 A14 c14)) rfl (cSetCell p (1 + 46) bd14 A14 c14 ok14 (by omega) (360) (d14)) ?_
 rintro t42 S42 ⟨d15, bd15, A15, c15, e15, ok15, rfl, rfl⟩
 refine nl ?_
 refine rs (yl ag_87 0 ?_)
 refine ym ?_
 refine AWL.callE rfl rfl (B rfl) rfl ce_76 (E rfl rfl) (evsC (E rfl rfl) (evsC (E rfl rfl) (evsC (E rfl rfl) evs0))) (F1 := [Ent.box b3 87 [.v (.pointer (some ⟨p, 0, none⟩))], Ent.box b2 93 (([.string ⟨#[]⟩, .int .i64 0, .int .i64 0, .int .i64 0, .slice none 0 0] : List Value).map T.v), Ent.box b1 3 [zi (1)]]) (S1 := (BdE p bd15 A15 c15)) rfl (cSetCell p (1 + 49) bd15 A15 c15 ok15 (by omega) (368) (d14)) ?_
 rintro t45 S45 ⟨d16, bd16, A16, c16, e16, ok16, rfl, rfl⟩
 refine nl ?_
 refine rs (yl ag_87 0 ?_)
 refine AWL.callE rfl rfl (B rfl) rfl ce_87 (E rfl rfl) (evsC (E rfl rfl) (evsC (E rfl rfl) evs0)) (F1 := [Ent.box b3 87 [.v (.pointer (some ⟨p, 0, none⟩))], Ent.box b2 93 (([.string ⟨#[]⟩, .int .i64 0, .int .i64 0, .int .i64 0, .slice none 0 0] : List Value).map T.v), Ent.box b1 3 [zi (1)]]) (S1 := (BdE p bd16 A16 c16)) rfl (cCell p (1 + 52) bd16 A16 c16 ok16 (by omega) (288)) ?_
 rintro t47 S47 ⟨d17, bd17, A17, c17, e17, ok17, rfl, rfl⟩
 refine ya ?_
 refine rs (yl ag_87 0 ?_)
 refine ym ?_
 refine AWL.callE rfl rfl (B rfl) rfl ce_76 (E rfl rfl) (evsC (E rfl rfl) (evsC (E rfl rfl) (evsC (E rfl rfl) evs0))) (F1 := [Ent.box b3 87 [.v (.pointer (some ⟨p, 0, none⟩))], Ent.box b2 93 (([.string ⟨#[]⟩, .int .i64 0, .int .i64 0, .int .i64 0, .slice none 0 0] : List Value).map T.v), Ent.box b1 3 [zi (1)]]) (S1 := (BdE p bd17 A17 c17)) rfl (cSetCell p (1 + 56) bd17 A17 c17 ok17 (by omega) (328) (d17)) ?_
 rintro t50 S50 ⟨d18, bd18, A18, c18, e18, ok18, rfl, rfl⟩
 refine nl ?_
 refine AW.rseqH (HeldCs [(b3, 0, Value.pointer (some ⟨p, 0, none⟩)), (b1, 0, Value.int .i64 (1))]) rfl (tells_cs (tcB 0 rfl rfl pinV (tcB 2 rfl rfl pinV (tc0)))) ?_
 refine T2 (i := 0) rfl (heldB 0 rfl ag_87 (E rfl rfl) rfl (fun _ _ => .v _)) ?_
 refine AWH.one (i := 1) (by kernel_rfl) rfl ?_
 refine yl ag_87 0 ?_
 refine AWL.nil (kpH (tcB 0 rfl rfl pinV (tcB 2 rfl rfl pinV (tc0))) ?_)
 refine AWH.one (i := 2) (by kernel_rfl) rfl ?_
 refine AWL.callE rfl rfl (B rfl) rfl ce_87 (E rfl rfl) (evsC (E rfl rfl) (evsC (E rfl rfl) evs0)) (F1 := [Ent.box b3 87 [.v (.pointer (some ⟨p, 0, none⟩))], Ent.box b2 93 (([.string ⟨#[]⟩, .int .i64 0, .int .i64 0, .int .i64 0, .slice none 0 0] : List Value).map T.v), Ent.box b1 3 [zi (1)]]) (S1 := (BdE p bd18 A18 c18)) rfl (cCell p (1 + 59) bd18 A18 c18 ok18 (by omega) (296)) ?_
 rintro t53 S53 ⟨d19, bd19, A19, c19, e19, ok19, rfl, rfl⟩
 refine AWL.nil (kpH (tcB 0 rfl rfl pinV (tcB 2 rfl rfl pinV (tc0))) ?_)
 refine AWH.one (i := 3) (by kernel_rfl) rfl ?_
 refine AWL.callE rfl rfl (B rfl) rfl ce_76 (E rfl rfl) (evsC (E rfl rfl) (evsC (E rfl rfl) (evsC (E rfl rfl) evs0))) (F1 := [Ent.box b3 87 [.v (.pointer (some ⟨p, 0, none⟩))], Ent.box b2 93 (([.string ⟨#[]⟩, .int .i64 0, .int .i64 0, .int .i64 0, .slice none 0 0] : List Value).map T.v), Ent.box b1 3 [zi (1)]]) (S1 := (BdE p bd19 A19 c19)) rfl (cSetCell p (1 + 63) bd19 A19 c19 ok19 (by omega) (336) (d19)) ?_
 rintro t54 S54 ⟨d20, bd20, A20, c20, e20, ok20, rfl, rfl⟩
 refine AWL.nil (kpH (tcB 0 rfl rfl pinV (tcB 2 rfl rfl pinV (tc0))) ?_)
 refine AWH.done (by kernel_rfl) ?_
 refine rs (yl ag_87 0 ?_)
 refine yl ag_3 2 ?_
 refine Y1 (Yv.addN_i64 rfl eV eV (fun hg => by omega)) ?_
 refine ym ?_
 refine AWL.buildSlice1 rfl rfl (B rfl) rfl el_35 rfl (evsC (E rfl rfl) evs0) nB rfl rfl ?_
 refine AWL.callE rfl rfl (B rfl) rfl ce_33 (E rfl rfl) (evsC (E rfl rfl) (evsC (E rfl rfl) (evsC (E rfl rfl) evs0))) (F1 := [Ent.box b3 87 [.v (.pointer (some ⟨p, 0, none⟩))], Ent.box b2 93 (([.string ⟨#[]⟩, .int .i64 0, .int .i64 0, .int .i64 0, .slice none 0 0] : List Value).map T.v), Ent.box b1 3 [zi (1)]]) (S1 := (BdE p bd20 A20 c20)) rfl (cCall p (1 + 66) bd20 A20 c20 ok20 (by omega) ((1 + 10)) [d17]) ?_
 rintro t60 S60 ⟨d21, bd21, A21, c21, e21, ok21, rfl, rfl⟩
 refine nl ?_
 refine AW.rseqH (HeldCs [(b3, 0, Value.pointer (some ⟨p, 0, none⟩)), (b1, 0, Value.int .i64 (1))]) rfl (tells_cs (tcB 0 rfl rfl pinV (tcB 2 rfl rfl pinV (tc0)))) ?_
 refine T2 (i := 0) rfl (heldB 0 rfl ag_87 (E rfl rfl) rfl (fun _ _ => .v _)) ?_
 refine AWH.one (i := 1) (by kernel_rfl) rfl ?_
 refine yl ag_87 0 ?_
 refine AWL.nil (kpH (tcB 0 rfl rfl pinV (tcB 2 rfl rfl pinV (tc0))) ?_)
 refine AWH.one (i := 2) (by kernel_rfl) rfl ?_
 refine AWL.callE rfl rfl (B rfl) rfl ce_87 (E rfl rfl) (evsC (E rfl rfl) (evsC (E rfl rfl) evs0)) (F1 := [Ent.box b3 87 [.v (.pointer (some ⟨p, 0, none⟩))], Ent.box b2 93 (([.string ⟨#[]⟩, .int .i64 0, .int .i64 0, .int .i64 0, .slice none 0 0] : List Value).map T.v), Ent.box b1 3 [zi (1)]]) (S1 := (BdE p bd21 A21 c21)) rfl (cCell p (1 + 68) bd21 A21 c21 ok21 (by omega) (328)) ?_
 rintro t63 S63 ⟨d22, bd22, A22, c22, e22, ok22, rfl, rfl⟩
 refine AWL.nil (kpH (tcB 0 rfl rfl pinV (tcB 2 rfl rfl pinV (tc0))) ?_)
 refine AWH.one (i := 3) (by kernel_rfl) rfl ?_
 refine AWL.callE rfl rfl (B rfl) rfl ce_76 (E rfl rfl) (evsC (E rfl rfl) (evsC (E rfl rfl) (evsC (E rfl rfl) evs0))) (F1 := [Ent.box b3 87 [.v (.pointer (some ⟨p, 0, none⟩))], Ent.box b2 93 (([.string ⟨#[]⟩, .int .i64 0, .int .i64 0, .int .i64 0, .slice none 0 0] : List Value).map T.v), Ent.box b1 3 [zi (1)]]) (S1 := (BdE p bd22 A22 c22)) rfl (cSetCell p (1 + 72) bd22 A22 c22 ok22 (by omega) (288) (d22)) ?_
 rintro t64 S64 ⟨d23, bd23, A23, c23, e23, ok23, rfl, rfl⟩
 refine AWL.nil (kpH (tcB 0 rfl rfl pinV (tcB 2 rfl rfl pinV (tc0))) ?_)
 refine AWH.done (by kernel_rfl) ?_
 refine rs (yl ag_87 0 ?_)
 refine AWL.callE rfl rfl (B rfl) rfl ce_95 (E rfl rfl) (evsC (E rfl rfl) evs0) (F1 := [Ent.box b3 87 [.v (.pointer (some ⟨p, 0, none⟩))], Ent.box b2 93 (([.string ⟨#[]⟩, .int .i64 0, .int .i64 0, .int .i64 0, .slice none 0 0] : List Value).map T.v), Ent.box b1 3 [zi (1)]]) (S1 := (BdE p bd23 A23 c23)) rfl (cEmptied p (1 + 75) bd23 A23 c23 ok23 (by omega) ) ?_
 rintro t66 S66 ⟨d24, bd24, A24, c24, e24, ok24, rfl, rfl⟩
 refine nl ?_
 refine rs (yl ag_87 0 ?_)
 refine AWL.callE rfl rfl (B rfl) rfl ce_34 (E rfl rfl) (evsC (E rfl rfl) (evsC (E rfl rfl) evs0)) (F1 := [Ent.box b3 87 [.v (.pointer (some ⟨p, 0, none⟩))], Ent.box b2 93 (([.string ⟨#[]⟩, .int .i64 0, .int .i64 0, .int .i64 0, .slice none 0 0] : List Value).map T.v), Ent.box b1 3 [zi (1)]]) (S1 := (BdE p bd24 A24 c24)) rfl (cRetC p (1 + 82) bd24 A24 c24 ok24 (by omega) (1)) ?_
 rintro t68 S68 ⟨d25, bd25, A25, c25, e25, ok25, rfl, rfl⟩
 refine nl ?_
 refine rs (yl ag_87 0 ?_)
 refine AWL.callE rfl rfl (B rfl) rfl ce_35 (E rfl rfl) (evsC (E rfl rfl) evs0) (F1 := [Ent.box b3 87 [.v (.pointer (some ⟨p, 0, none⟩))], Ent.box b2 93 (([.string ⟨#[]⟩, .int .i64 0, .int .i64 0, .int .i64 0, .slice none 0 0] : List Value).map T.v), Ent.box b1 3 [zi (1)]]) (S1 := (BdE p bd25 A25 c25)) rfl (cDone p bd25 A25 c25) ?_
 rintro t70 S70 ⟨rfl, rfl⟩
 refine AWL.storeBox (i := 1) rfl rfl rfl ag_93 rfl (E rfl rfl) (E rfl rfl) rfl rfl nB (nl ?_)
 refine AW.ret (retI (.cellA (i := 1) rfl ag_93 rfl rfl rfl .nil) ?_)
 show _ = T.agg (fnCells (fnB (mMinorFn (bd0 [103, 99, 46, 109, 105, 110, 111, 114] 0)).2))
 rw [show mMinorFn (bd0 [103, 99, 46, 109, 105, 110, 111, 114] 0) = ((), bd25) from (bq e1).trans ((bq e2).trans ((bq e3).trans ((bq e4).trans ((bq e5).trans ((bq e6).trans ((bq e7).trans ((bq e8).trans ((bq e9).trans ((bq e10).trans ((bq e11).trans ((bq e12).trans ((bq e13).trans ((bq e14).trans ((bq e15).trans ((bq e16).trans ((bq e17).trans ((bq e18).trans ((bq e19).trans ((bq e20).trans ((bq e21).trans ((bq e22).trans ((bq e23).trans ((bq e24).trans (e25))))))))))))))))))))))))]
 rfl

theorem cMinorFn : ACalls Tryz.prog 56 [zi 1] [] (fun t S => t = .agg (fnCells fMinorFn) ∧ S = []) := (cMinorFn_).less fun t S' h => ⟨[], List.nil_sublist _, h, rfl⟩
def mMajorFn : BM Unit :=
 bnd (mCell (312)) fun d1 =>
 bnd (mWhile (5) (mMajor1 (d1)) (mMajor2 (d1))) fun _ =>
 bnd (mCell (312)) fun d3 =>
 bnd (mSetCell (320) (d3)) fun _ =>
 bnd (mCell (256)) fun d5 =>
 bnd (mSetCell (344) (d5)) fun _ =>
 bnd (mCell (272)) fun d7 =>
 bnd (mCell (256)) fun d8 =>
 bnd (mSub (d7) (d8)) fun d9 =>
 bnd (mSetCell (352) (d9)) fun _ =>
 bnd (mCell (280)) fun d11 =>
 bnd (mSetCell (360) (d11)) fun _ =>
 bnd (mCell (376)) fun d13 =>
 bnd (mSetCell (368) (d13)) fun _ =>
 bnd (mCell (304)) fun d15 =>
 bnd (mSetCell (328) (d15)) fun _ =>
 bnd (mCell (376)) fun d17 =>
 bnd (mAdd (d15) (d17)) fun d18 =>
 bnd (mSetCell (336) (d18)) fun _ =>
 bnd (mCall ((1 + 10)) [d15]) fun d20 =>
 bnd (mCell (280)) fun d21 =>
 bnd (mCell (304)) fun d22 =>
 bnd (mSetCell (280) (d22)) fun _ =>
 bnd (mSetCell (304) (d21)) fun _ =>
 bnd (mCell (328)) fun d25 =>
 bnd (mSetCell (288) (d25)) fun _ =>
 bnd (mCell (376)) fun d27 =>
 bnd (mAdd (d22) (d27)) fun d28 =>
 bnd (mSetCell (296) (d28)) fun _ =>
 bnd (mEmptied ) fun _ =>
 mRetC (1)
def fMajorFn : Fn := fnB (mMajorFn (bd0 [103, 99, 46, 109, 97, 106, 111, 114] 0)).2
set_option maxHeartbeats 16000000 in
theorem cMajorFn_  :
    ACalls Tryz.prog 57 [zi 1] [] (fun t S => t = .agg (fnCells (fMajorFn))) := by
 refine ACalls.intro Tryz.func57 rfl Tryz.ntmps57 nB rfl fun X w0 => ?_
 refine rs ?_
 refine AWL.allocOp rfl rfl (B rfl) rfl zc_93 (fun b2 => ?_)
 refine AWL.perm (List.perm_append_singleton _ _).symm (nl ?_)
 refine rs ?_
 refine AWL.callE rfl rfl (B rfl) rfl ce_32 (E rfl rfl) (evsC (E rfl rfl) (evsC (E rfl rfl) evs0)) (F1 := [Ent.box b2 93 (([.string ⟨#[]⟩, .int .i64 0, .int .i64 0, .int .i64 0, .slice none 0 0] : List Value).map T.v)]) (S1 := []) rfl (cNew [103, 99, 46, 109, 97, 106, 111, 114] 0) ?_
 rintro t8 S8 ⟨p, rfl, rfl⟩
 have ok0 : BdOk 1 (bd0 [103, 99, 46, 109, 97, 106, 111, 114] 0) := ⟨by decide, by decide, by decide, by decide, by decide, by decide, by decide⟩
 refine AWL.allocOp rfl rfl (B rfl) rfl zc_87 (fun b3 => ?_)
 refine AWL.perm (List.perm_append_singleton _ _).symm ?_
 refine AWL.storeBox (i := 0) rfl rfl rfl ag_87 rfl (E rfl rfl) (E rfl rfl) rfl rfl nB (nl ?_)
 refine rs (yl ag_87 0 ?_)
 refine AWL.callE rfl rfl (B rfl) rfl ce_87 (E rfl rfl) (evsC (E rfl rfl) (evsC (E rfl rfl) evs0)) (F1 := [Ent.box b3 87 [.v (.pointer (some ⟨p, 0, none⟩))], Ent.box b2 93 (([.string ⟨#[]⟩, .int .i64 0, .int .i64 0, .int .i64 0, .slice none 0 0] : List Value).map T.v)]) (S1 := (BdE p (bd0 [103, 99, 46, 109, 97, 106, 111, 114] 0) none 0)) rfl (cCell p 1 (bd0 [103, 99, 46, 109, 97, 106, 111, 114] 0) none 0 ok0 (by omega) (312)) ?_
 rintro t10 S10 ⟨d1, bd1, A1, c1, e1, ok1, rfl, rfl⟩
 refine AWL.allocOp rfl rfl (B rfl) rfl zc_3 (fun b4 => ?_)
 refine AWL.perm (List.perm_append_singleton _ _).symm ?_
 refine AWL.storeBox (i := 0) rfl rfl rfl ag_3 rfl (E rfl rfl) (E rfl rfl) rfl rfl nB (nl ?_)
 refine rs (yl ag_87 1 ?_)
 refine Y1 (Yv.makeFunc rfl evs0 rfl (evsC eV (evsC eV evs0)) rfl) ?_
 refine Y1 (Yv.makeFunc rfl evs0 rfl (evsC eV (evsC eV evs0)) rfl) ?_
 refine AWL.callAll rfl rfl (B rfl) rfl ce_96 (E rfl rfl) (evsC (E rfl rfl) (evsC (E rfl rfl) (evsC (E rfl rfl) (evsC (E rfl rfl) evs0)))) (cWhile p (1 + 4) 12 4 bd1 A1 c1 ok1 (by omega) (5) 97 98 #[.pointer (some ⟨b4, 0, none⟩), .pointer (some ⟨b3, 0, none⟩)] #[.pointer (some ⟨b3, 0, none⟩), .pointer (some ⟨b4, 0, none⟩)] [Ent.box b4 3 [zi (d1)], Ent.box b3 87 [.v (.pointer (some ⟨p, 0, none⟩))], Ent.box b2 93 (([.string ⟨#[]⟩, .int .i64 0, .int .i64 0, .int .i64 0, .slice none 0 0] : List Value).map T.v)] (mMajor1 (d1)) (mMajor2 (d1)) ce_97 ce_98 (fun bd9 A9 c9 ok9 => cMajor1 p _ bd9 A9 c9 ok9 (by omega) [Ent.box b4 3 [zi (d1)], Ent.box b3 87 [.v (.pointer (some ⟨p, 0, none⟩))], Ent.box b2 93 (([.string ⟨#[]⟩, .int .i64 0, .int .i64 0, .int .i64 0, .slice none 0 0] : List Value).map T.v)] 0 b4 (d1) rfl 1 b3 rfl) (fun bd9 A9 c9 ok9 => cMajor2 p _ bd9 A9 c9 ok9 (by omega) [Ent.box b4 3 [zi (d1)], Ent.box b3 87 [.v (.pointer (some ⟨p, 0, none⟩))], Ent.box b2 93 (([.string ⟨#[]⟩, .int .i64 0, .int .i64 0, .int .i64 0, .slice none 0 0] : List Value).map T.v)] 1 b3 rfl 0 b4 (d1) rfl)) ?_
 rintro t14 S14 ⟨rfl, bd2, A2, c2, e2, ok2, rfl⟩
 refine nl ?_
 refine AW.rseqH (HeldCs [(b4, 0, Value.int .i64 (d1)), (b3, 0, Value.pointer (some ⟨p, 0, none⟩))]) rfl (tells_cs (tcB 0 rfl rfl pinV (tcB 1 rfl rfl pinV (tc0)))) ?_
 refine T2 (i := 0) rfl (heldB 1 rfl ag_87 (E rfl rfl) rfl (fun _ _ => .v _)) ?_
 refine AWH.one (i := 1) (by kernel_rfl) rfl ?_
 refine yl ag_87 1 ?_
 refine AWL.nil (kpH (tcB 0 rfl rfl pinV (tcB 1 rfl rfl pinV (tc0))) ?_)
 refine AWH.one (i := 2) (by kernel_rfl) rfl ?_
 refine AWL.callE rfl rfl (B rfl) rfl ce_87 (E rfl rfl) (evsC (E rfl rfl) (evsC (E rfl rfl) evs0)) (F1 := [Ent.box b4 3 [zi (d1)], Ent.box b3 87 [.v (.pointer (some ⟨p, 0, none⟩))], Ent.box b2 93 (([.string ⟨#[]⟩, .int .i64 0, .int .i64 0, .int .i64 0, .slice none 0 0] : List Value).map T.v)]) (S1 := (BdE p bd2 A2 c2)) rfl (cCell p (1 + 26) bd2 A2 c2 ok2 (by omega) (312)) ?_
 rintro t17 S17 ⟨d3, bd3, A3, c3, e3, ok3, rfl, rfl⟩
 refine AWL.nil (kpH (tcB 0 rfl rfl pinV (tcB 1 rfl rfl pinV (tc0))) ?_)
 refine AWH.one (i := 3) (by kernel_rfl) rfl ?_
 refine AWL.callE rfl rfl (B rfl) rfl ce_76 (E rfl rfl) (evsC (E rfl rfl) (evsC (E rfl rfl) (evsC (E rfl rfl) evs0))) (F1 := [Ent.box b4 3 [zi (d1)], Ent.box b3 87 [.v (.pointer (some ⟨p, 0, none⟩))], Ent.box b2 93 (([.string ⟨#[]⟩, .int .i64 0, .int .i64 0, .int .i64 0, .slice none 0 0] : List Value).map T.v)]) (S1 := (BdE p bd3 A3 c3)) rfl (cSetCell p (1 + 30) bd3 A3 c3 ok3 (by omega) (320) (d3)) ?_
 rintro t18 S18 ⟨d4, bd4, A4, c4, e4, ok4, rfl, rfl⟩
 refine AWL.nil (kpH (tcB 0 rfl rfl pinV (tcB 1 rfl rfl pinV (tc0))) ?_)
 refine AWH.done (by kernel_rfl) ?_
 refine AW.rseqH (HeldCs [(b4, 0, Value.int .i64 (d1)), (b3, 0, Value.pointer (some ⟨p, 0, none⟩))]) rfl (tells_cs (tcB 0 rfl rfl pinV (tcB 1 rfl rfl pinV (tc0)))) ?_
 refine T2 (i := 0) rfl (heldB 1 rfl ag_87 (E rfl rfl) rfl (fun _ _ => .v _)) ?_
 refine AWH.one (i := 1) (by kernel_rfl) rfl ?_
 refine yl ag_87 1 ?_
 refine AWL.nil (kpH (tcB 0 rfl rfl pinV (tcB 1 rfl rfl pinV (tc0))) ?_)
 refine AWH.one (i := 2) (by kernel_rfl) rfl ?_
 refine AWL.callE rfl rfl (B rfl) rfl ce_87 (E rfl rfl) (evsC (E rfl rfl) (evsC (E rfl rfl) evs0)) (F1 := [Ent.box b4 3 [zi (d1)], Ent.box b3 87 [.v (.pointer (some ⟨p, 0, none⟩))], Ent.box b2 93 (([.string ⟨#[]⟩, .int .i64 0, .int .i64 0, .int .i64 0, .slice none 0 0] : List Value).map T.v)]) (S1 := (BdE p bd4 A4 c4)) rfl (cCell p (1 + 33) bd4 A4 c4 ok4 (by omega) (256)) ?_
 rintro t21 S21 ⟨d5, bd5, A5, c5, e5, ok5, rfl, rfl⟩
 refine AWL.nil (kpH (tcB 0 rfl rfl pinV (tcB 1 rfl rfl pinV (tc0))) ?_)
 refine AWH.one (i := 3) (by kernel_rfl) rfl ?_
 refine AWL.callE rfl rfl (B rfl) rfl ce_76 (E rfl rfl) (evsC (E rfl rfl) (evsC (E rfl rfl) (evsC (E rfl rfl) evs0))) (F1 := [Ent.box b4 3 [zi (d1)], Ent.box b3 87 [.v (.pointer (some ⟨p, 0, none⟩))], Ent.box b2 93 (([.string ⟨#[]⟩, .int .i64 0, .int .i64 0, .int .i64 0, .slice none 0 0] : List Value).map T.v)]) (S1 := (BdE p bd5 A5 c5)) rfl (cSetCell p (1 + 37) bd5 A5 c5 ok5 (by omega) (344) (d5)) ?_
 rintro t22 S22 ⟨d6, bd6, A6, c6, e6, ok6, rfl, rfl⟩
 refine AWL.nil (kpH (tcB 0 rfl rfl pinV (tcB 1 rfl rfl pinV (tc0))) ?_)
 refine AWH.done (by kernel_rfl) ?_
 refine AW.rseqH (HeldCs [(b4, 0, Value.int .i64 (d1)), (b3, 0, Value.pointer (some ⟨p, 0, none⟩))]) rfl (tells_cs (tcB 0 rfl rfl pinV (tcB 1 rfl rfl pinV (tc0)))) ?_
 refine T2 (i := 0) rfl (heldB 1 rfl ag_87 (E rfl rfl) rfl (fun _ _ => .v _)) ?_
 refine T2 (i := 1) rfl (heldB 1 rfl ag_87 (E rfl rfl) rfl (fun _ _ => .v _)) ?_
 refine T2 (i := 2) rfl (heldB 1 rfl ag_87 (E rfl rfl) rfl (fun _ _ => .v _)) ?_
 refine T2 (i := 4) rfl (heldB 1 rfl ag_87 (E rfl rfl) rfl (fun _ _ => .v _)) ?_
 refine AWH.one (i := 3) (by kernel_rfl) rfl ?_
 refine AWL.callE rfl rfl (B rfl) rfl ce_87 (E rfl rfl) (evsC (E rfl rfl) (evsC (E rfl rfl) evs0)) (F1 := [Ent.box b4 3 [zi (d1)], Ent.box b3 87 [.v (.pointer (some ⟨p, 0, none⟩))], Ent.box b2 93 (([.string ⟨#[]⟩, .int .i64 0, .int .i64 0, .int .i64 0, .slice none 0 0] : List Value).map T.v)]) (S1 := (BdE p bd6 A6 c6)) rfl (cCell p (1 + 40) bd6 A6 c6 ok6 (by omega) (272)) ?_
 rintro t26 S26 ⟨d7, bd7, A7, c7, e7, ok7, rfl, rfl⟩
 refine AWL.nil (kpH (tcB 0 rfl rfl pinV (tcB 1 rfl rfl pinV (tc0))) ?_)
 refine AWH.one (i := 5) (by kernel_rfl) rfl ?_
 refine AWL.callE rfl rfl (B rfl) rfl ce_87 (E rfl rfl) (evsC (E rfl rfl) (evsC (E rfl rfl) evs0)) (F1 := [Ent.box b4 3 [zi (d1)], Ent.box b3 87 [.v (.pointer (some ⟨p, 0, none⟩))], Ent.box b2 93 (([.string ⟨#[]⟩, .int .i64 0, .int .i64 0, .int .i64 0, .slice none 0 0] : List Value).map T.v)]) (S1 := (BdE p bd7 A7 c7)) rfl (cCell p (1 + 44) bd7 A7 c7 ok7 (by omega) (256)) ?_
 rintro t28 S28 ⟨d8, bd8, A8, c8, e8, ok8, rfl, rfl⟩
 refine AWL.nil (kpH (tcB 0 rfl rfl pinV (tcB 1 rfl rfl pinV (tc0))) ?_)
 refine AWH.one (i := 6) (by kernel_rfl) rfl ?_
 refine AWL.callE rfl rfl (B rfl) rfl ce_86 (E rfl rfl) (evsC (E rfl rfl) (evsC (E rfl rfl) (evsC (E rfl rfl) evs0))) (F1 := [Ent.box b4 3 [zi (d1)], Ent.box b3 87 [.v (.pointer (some ⟨p, 0, none⟩))], Ent.box b2 93 (([.string ⟨#[]⟩, .int .i64 0, .int .i64 0, .int .i64 0, .slice none 0 0] : List Value).map T.v)]) (S1 := (BdE p bd8 A8 c8)) rfl (cSub p (1 + 48) bd8 A8 c8 ok8 (by omega) (d7) (d8)) ?_
 rintro t29 S29 ⟨d9, bd9, A9, c9, e9, ok9, rfl, rfl⟩
 refine AWL.nil (kpH (tcB 0 rfl rfl pinV (tcB 1 rfl rfl pinV (tc0))) ?_)
 refine AWH.one (i := 7) (by kernel_rfl) rfl ?_
 refine AWL.callE rfl rfl (B rfl) rfl ce_76 (E rfl rfl) (evsC (E rfl rfl) (evsC (E rfl rfl) (evsC (E rfl rfl) evs0))) (F1 := [Ent.box b4 3 [zi (d1)], Ent.box b3 87 [.v (.pointer (some ⟨p, 0, none⟩))], Ent.box b2 93 (([.string ⟨#[]⟩, .int .i64 0, .int .i64 0, .int .i64 0, .slice none 0 0] : List Value).map T.v)]) (S1 := (BdE p bd9 A9 c9)) rfl (cSetCell p (1 + 50) bd9 A9 c9 ok9 (by omega) (352) (d9)) ?_
 rintro t30 S30 ⟨d10, bd10, A10, c10, e10, ok10, rfl, rfl⟩
 refine AWL.nil (kpH (tcB 0 rfl rfl pinV (tcB 1 rfl rfl pinV (tc0))) ?_)
 refine AWH.done (by kernel_rfl) ?_
 refine AW.rseqH (HeldCs [(b4, 0, Value.int .i64 (d1)), (b3, 0, Value.pointer (some ⟨p, 0, none⟩))]) rfl (tells_cs (tcB 0 rfl rfl pinV (tcB 1 rfl rfl pinV (tc0)))) ?_
 refine T2 (i := 0) rfl (heldB 1 rfl ag_87 (E rfl rfl) rfl (fun _ _ => .v _)) ?_
 refine AWH.one (i := 1) (by kernel_rfl) rfl ?_
 refine yl ag_87 1 ?_
 refine AWL.nil (kpH (tcB 0 rfl rfl pinV (tcB 1 rfl rfl pinV (tc0))) ?_)
 refine AWH.one (i := 2) (by kernel_rfl) rfl ?_
 refine AWL.callE rfl rfl (B rfl) rfl ce_87 (E rfl rfl) (evsC (E rfl rfl) (evsC (E rfl rfl) evs0)) (F1 := [Ent.box b4 3 [zi (d1)], Ent.box b3 87 [.v (.pointer (some ⟨p, 0, none⟩))], Ent.box b2 93 (([.string ⟨#[]⟩, .int .i64 0, .int .i64 0, .int .i64 0, .slice none 0 0] : List Value).map T.v)]) (S1 := (BdE p bd10 A10 c10)) rfl (cCell p (1 + 53) bd10 A10 c10 ok10 (by omega) (280)) ?_
 rintro t33 S33 ⟨d11, bd11, A11, c11, e11, ok11, rfl, rfl⟩
 refine AWL.nil (kpH (tcB 0 rfl rfl pinV (tcB 1 rfl rfl pinV (tc0))) ?_)
 refine AWH.one (i := 3) (by kernel_rfl) rfl ?_
 refine AWL.callE rfl rfl (B rfl) rfl ce_76 (E rfl rfl) (evsC (E rfl rfl) (evsC (E rfl rfl) (evsC (E rfl rfl) evs0))) (F1 := [Ent.box b4 3 [zi (d1)], Ent.box b3 87 [.v (.pointer (some ⟨p, 0, none⟩))], Ent.box b2 93 (([.string ⟨#[]⟩, .int .i64 0, .int .i64 0, .int .i64 0, .slice none 0 0] : List Value).map T.v)]) (S1 := (BdE p bd11 A11 c11)) rfl (cSetCell p (1 + 57) bd11 A11 c11 ok11 (by omega) (360) (d11)) ?_
 rintro t34 S34 ⟨d12, bd12, A12, c12, e12, ok12, rfl, rfl⟩
 refine AWL.nil (kpH (tcB 0 rfl rfl pinV (tcB 1 rfl rfl pinV (tc0))) ?_)
 refine AWH.done (by kernel_rfl) ?_
 refine AW.rseqH (HeldCs [(b4, 0, Value.int .i64 (d1)), (b3, 0, Value.pointer (some ⟨p, 0, none⟩))]) rfl (tells_cs (tcB 0 rfl rfl pinV (tcB 1 rfl rfl pinV (tc0)))) ?_
 refine T2 (i := 0) rfl (heldB 1 rfl ag_87 (E rfl rfl) rfl (fun _ _ => .v _)) ?_
 refine AWH.one (i := 1) (by kernel_rfl) rfl ?_
 refine yl ag_87 1 ?_
 refine AWL.nil (kpH (tcB 0 rfl rfl pinV (tcB 1 rfl rfl pinV (tc0))) ?_)
 refine AWH.one (i := 2) (by kernel_rfl) rfl ?_
 refine AWL.callE rfl rfl (B rfl) rfl ce_87 (E rfl rfl) (evsC (E rfl rfl) (evsC (E rfl rfl) evs0)) (F1 := [Ent.box b4 3 [zi (d1)], Ent.box b3 87 [.v (.pointer (some ⟨p, 0, none⟩))], Ent.box b2 93 (([.string ⟨#[]⟩, .int .i64 0, .int .i64 0, .int .i64 0, .slice none 0 0] : List Value).map T.v)]) (S1 := (BdE p bd12 A12 c12)) rfl (cCell p (1 + 60) bd12 A12 c12 ok12 (by omega) (376)) ?_
 rintro t37 S37 ⟨d13, bd13, A13, c13, e13, ok13, rfl, rfl⟩
 refine AWL.nil (kpH (tcB 0 rfl rfl pinV (tcB 1 rfl rfl pinV (tc0))) ?_)
 refine AWH.one (i := 3) (by kernel_rfl) rfl ?_
 refine AWL.callE rfl rfl (B rfl) rfl ce_76 (E rfl rfl) (evsC (E rfl rfl) (evsC (E rfl rfl) (evsC (E rfl rfl) evs0))) (F1 := [Ent.box b4 3 [zi (d1)], Ent.box b3 87 [.v (.pointer (some ⟨p, 0, none⟩))], Ent.box b2 93 (([.string ⟨#[]⟩, .int .i64 0, .int .i64 0, .int .i64 0, .slice none 0 0] : List Value).map T.v)]) (S1 := (BdE p bd13 A13 c13)) rfl (cSetCell p (1 + 64) bd13 A13 c13 ok13 (by omega) (368) (d13)) ?_
 rintro t38 S38 ⟨d14, bd14, A14, c14, e14, ok14, rfl, rfl⟩
 refine AWL.nil (kpH (tcB 0 rfl rfl pinV (tcB 1 rfl rfl pinV (tc0))) ?_)
 refine AWH.done (by kernel_rfl) ?_
 refine rs (yl ag_87 1 ?_)
 refine AWL.callE rfl rfl (B rfl) rfl ce_87 (E rfl rfl) (evsC (E rfl rfl) (evsC (E rfl rfl) evs0)) (F1 := [Ent.box b4 3 [zi (d1)], Ent.box b3 87 [.v (.pointer (some ⟨p, 0, none⟩))], Ent.box b2 93 (([.string ⟨#[]⟩, .int .i64 0, .int .i64 0, .int .i64 0, .slice none 0 0] : List Value).map T.v)]) (S1 := (BdE p bd14 A14 c14)) rfl (cCell p (1 + 67) bd14 A14 c14 ok14 (by omega) (304)) ?_
 rintro t40 S40 ⟨d15, bd15, A15, c15, e15, ok15, rfl, rfl⟩
 refine ya ?_
 refine rs (yl ag_87 1 ?_)
 refine ym ?_
 refine AWL.callE rfl rfl (B rfl) rfl ce_76 (E rfl rfl) (evsC (E rfl rfl) (evsC (E rfl rfl) (evsC (E rfl rfl) evs0))) (F1 := [Ent.box b4 3 [zi (d1)], Ent.box b3 87 [.v (.pointer (some ⟨p, 0, none⟩))], Ent.box b2 93 (([.string ⟨#[]⟩, .int .i64 0, .int .i64 0, .int .i64 0, .slice none 0 0] : List Value).map T.v)]) (S1 := (BdE p bd15 A15 c15)) rfl (cSetCell p (1 + 71) bd15 A15 c15 ok15 (by omega) (328) (d15)) ?_
 rintro t43 S43 ⟨d16, bd16, A16, c16, e16, ok16, rfl, rfl⟩
 refine nl ?_
 refine AW.rseqH (HeldCs [(b4, 0, Value.int .i64 (d1)), (b3, 0, Value.pointer (some ⟨p, 0, none⟩))]) rfl (tells_cs (tcB 0 rfl rfl pinV (tcB 1 rfl rfl pinV (tc0)))) ?_
 refine T2 (i := 0) rfl (heldB 1 rfl ag_87 (E rfl rfl) rfl (fun _ _ => .v _)) ?_
 refine T2 (i := 1) rfl (heldB 1 rfl ag_87 (E rfl rfl) rfl (fun _ _ => .v _)) ?_
 refine T2 (i := 2) rfl (heldAll (freeMove rfl (E rfl rfl))) ?_
 refine AWH.one (i := 3) (by kernel_rfl) rfl ?_
 refine yl ag_87 1 ?_
 refine AWL.nil (kpH (tcB 0 rfl rfl pinV (tcB 1 rfl rfl pinV (tc0))) ?_)
 refine AWH.one (i := 4) (by kernel_rfl) rfl ?_
 refine AWL.callE rfl rfl (B rfl) rfl ce_87 (E rfl rfl) (evsC (E rfl rfl) (evsC (E rfl rfl) evs0)) (F1 := [Ent.box b4 3 [zi (d1)], Ent.box b3 87 [.v (.pointer (some ⟨p, 0, none⟩))], Ent.box b2 93 (([.string ⟨#[]⟩, .int .i64 0, .int .i64 0, .int .i64 0, .slice none 0 0] : List Value).map T.v)]) (S1 := (BdE p bd16 A16 c16)) rfl (cCell p (1 + 74) bd16 A16 c16 ok16 (by omega) (376)) ?_
 rintro t48 S48 ⟨d17, bd17, A17, c17, e17, ok17, rfl, rfl⟩
 refine AWL.nil (kpH (tcB 0 rfl rfl pinV (tcB 1 rfl rfl pinV (tc0))) ?_)
 refine AWH.one (i := 5) (by kernel_rfl) rfl ?_
 refine AWL.callE rfl rfl (B rfl) rfl ce_83 (E rfl rfl) (evsC (E rfl rfl) (evsC (E rfl rfl) (evsC (E rfl rfl) evs0))) (F1 := [Ent.box b4 3 [zi (d1)], Ent.box b3 87 [.v (.pointer (some ⟨p, 0, none⟩))], Ent.box b2 93 (([.string ⟨#[]⟩, .int .i64 0, .int .i64 0, .int .i64 0, .slice none 0 0] : List Value).map T.v)]) (S1 := (BdE p bd17 A17 c17)) rfl (cAdd p (1 + 78) bd17 A17 c17 ok17 (by omega) (d15) (d17)) ?_
 rintro t49 S49 ⟨d18, bd18, A18, c18, e18, ok18, rfl, rfl⟩
 refine AWL.nil (kpH (tcB 0 rfl rfl pinV (tcB 1 rfl rfl pinV (tc0))) ?_)
 refine AWH.one (i := 6) (by kernel_rfl) rfl ?_
 refine AWL.callE rfl rfl (B rfl) rfl ce_76 (E rfl rfl) (evsC (E rfl rfl) (evsC (E rfl rfl) (evsC (E rfl rfl) evs0))) (F1 := [Ent.box b4 3 [zi (d1)], Ent.box b3 87 [.v (.pointer (some ⟨p, 0, none⟩))], Ent.box b2 93 (([.string ⟨#[]⟩, .int .i64 0, .int .i64 0, .int .i64 0, .slice none 0 0] : List Value).map T.v)]) (S1 := (BdE p bd18 A18 c18)) rfl (cSetCell p (1 + 80) bd18 A18 c18 ok18 (by omega) (336) (d18)) ?_
 rintro t50 S50 ⟨d19, bd19, A19, c19, e19, ok19, rfl, rfl⟩
 refine AWL.nil (kpH (tcB 0 rfl rfl pinV (tcB 1 rfl rfl pinV (tc0))) ?_)
 refine AWH.done (by kernel_rfl) ?_
 refine rs (yl ag_87 1 ?_)
 refine ym ?_
 refine Y1 (Yv.addN_i64 rfl eV eV (fun hg => by omega)) ?_
 refine ym ?_
 refine AWL.buildSlice1 rfl rfl (B rfl) rfl el_35 rfl (evsC (E rfl rfl) evs0) nB rfl rfl ?_
 refine AWL.callE rfl rfl (B rfl) rfl ce_33 (E rfl rfl) (evsC (E rfl rfl) (evsC (E rfl rfl) (evsC (E rfl rfl) evs0))) (F1 := [Ent.box b4 3 [zi (d1)], Ent.box b3 87 [.v (.pointer (some ⟨p, 0, none⟩))], Ent.box b2 93 (([.string ⟨#[]⟩, .int .i64 0, .int .i64 0, .int .i64 0, .slice none 0 0] : List Value).map T.v)]) (S1 := (BdE p bd19 A19 c19)) rfl (cCall p (1 + 83) bd19 A19 c19 ok19 (by omega) ((1 + 10)) [d15]) ?_
 rintro t56 S56 ⟨d20, bd20, A20, c20, e20, ok20, rfl, rfl⟩
 refine nl ?_
 refine rs (yl ag_87 1 ?_)
 refine AWL.callE rfl rfl (B rfl) rfl ce_87 (E rfl rfl) (evsC (E rfl rfl) (evsC (E rfl rfl) evs0)) (F1 := [Ent.box b4 3 [zi (d1)], Ent.box b3 87 [.v (.pointer (some ⟨p, 0, none⟩))], Ent.box b2 93 (([.string ⟨#[]⟩, .int .i64 0, .int .i64 0, .int .i64 0, .slice none 0 0] : List Value).map T.v)]) (S1 := (BdE p bd20 A20 c20)) rfl (cCell p (1 + 85) bd20 A20 c20 ok20 (by omega) (280)) ?_
 rintro t58 S58 ⟨d21, bd21, A21, c21, e21, ok21, rfl, rfl⟩
 refine ya ?_
 refine rs (yl ag_87 1 ?_)
 refine AWL.callE rfl rfl (B rfl) rfl ce_87 (E rfl rfl) (evsC (E rfl rfl) (evsC (E rfl rfl) evs0)) (F1 := [Ent.box b4 3 [zi (d1)], Ent.box b3 87 [.v (.pointer (some ⟨p, 0, none⟩))], Ent.box b2 93 (([.string ⟨#[]⟩, .int .i64 0, .int .i64 0, .int .i64 0, .slice none 0 0] : List Value).map T.v)]) (S1 := (BdE p bd21 A21 c21)) rfl (cCell p (1 + 89) bd21 A21 c21 ok21 (by omega) (304)) ?_
 rintro t60 S60 ⟨d22, bd22, A22, c22, e22, ok22, rfl, rfl⟩
 refine ya ?_
 refine rs (yl ag_87 1 ?_)
 refine ym ?_
 refine AWL.callE rfl rfl (B rfl) rfl ce_76 (E rfl rfl) (evsC (E rfl rfl) (evsC (E rfl rfl) (evsC (E rfl rfl) evs0))) (F1 := [Ent.box b4 3 [zi (d1)], Ent.box b3 87 [.v (.pointer (some ⟨p, 0, none⟩))], Ent.box b2 93 (([.string ⟨#[]⟩, .int .i64 0, .int .i64 0, .int .i64 0, .slice none 0 0] : List Value).map T.v)]) (S1 := (BdE p bd22 A22 c22)) rfl (cSetCell p (1 + 93) bd22 A22 c22 ok22 (by omega) (280) (d22)) ?_
 rintro t63 S63 ⟨d23, bd23, A23, c23, e23, ok23, rfl, rfl⟩
 refine nl ?_
 refine rs (yl ag_87 1 ?_)
 refine ym ?_
 refine AWL.callE rfl rfl (B rfl) rfl ce_76 (E rfl rfl) (evsC (E rfl rfl) (evsC (E rfl rfl) (evsC (E rfl rfl) evs0))) (F1 := [Ent.box b4 3 [zi (d1)], Ent.box b3 87 [.v (.pointer (some ⟨p, 0, none⟩))], Ent.box b2 93 (([.string ⟨#[]⟩, .int .i64 0, .int .i64 0, .int .i64 0, .slice none 0 0] : List Value).map T.v)]) (S1 := (BdE p bd23 A23 c23)) rfl (cSetCell p (1 + 96) bd23 A23 c23 ok23 (by omega) (304) (d21)) ?_
 rintro t66 S66 ⟨d24, bd24, A24, c24, e24, ok24, rfl, rfl⟩
 refine nl ?_
 refine AW.rseqH (HeldCs [(b4, 0, Value.int .i64 (d1)), (b3, 0, Value.pointer (some ⟨p, 0, none⟩))]) rfl (tells_cs (tcB 0 rfl rfl pinV (tcB 1 rfl rfl pinV (tc0)))) ?_
 refine T2 (i := 0) rfl (heldB 1 rfl ag_87 (E rfl rfl) rfl (fun _ _ => .v _)) ?_
 refine AWH.one (i := 1) (by kernel_rfl) rfl ?_
 refine yl ag_87 1 ?_
 refine AWL.nil (kpH (tcB 0 rfl rfl pinV (tcB 1 rfl rfl pinV (tc0))) ?_)
 refine AWH.one (i := 2) (by kernel_rfl) rfl ?_
 refine AWL.callE rfl rfl (B rfl) rfl ce_87 (E rfl rfl) (evsC (E rfl rfl) (evsC (E rfl rfl) evs0)) (F1 := [Ent.box b4 3 [zi (d1)], Ent.box b3 87 [.v (.pointer (some ⟨p, 0, none⟩))], Ent.box b2 93 (([.string ⟨#[]⟩, .int .i64 0, .int .i64 0, .int .i64 0, .slice none 0 0] : List Value).map T.v)]) (S1 := (BdE p bd24 A24 c24)) rfl (cCell p (1 + 99) bd24 A24 c24 ok24 (by omega) (328)) ?_
 rintro t69 S69 ⟨d25, bd25, A25, c25, e25, ok25, rfl, rfl⟩
 refine AWL.nil (kpH (tcB 0 rfl rfl pinV (tcB 1 rfl rfl pinV (tc0))) ?_)
 refine AWH.one (i := 3) (by kernel_rfl) rfl ?_
 refine AWL.callE rfl rfl (B rfl) rfl ce_76 (E rfl rfl) (evsC (E rfl rfl) (evsC (E rfl rfl) (evsC (E rfl rfl) evs0))) (F1 := [Ent.box b4 3 [zi (d1)], Ent.box b3 87 [.v (.pointer (some ⟨p, 0, none⟩))], Ent.box b2 93 (([.string ⟨#[]⟩, .int .i64 0, .int .i64 0, .int .i64 0, .slice none 0 0] : List Value).map T.v)]) (S1 := (BdE p bd25 A25 c25)) rfl (cSetCell p (1 + 103) bd25 A25 c25 ok25 (by omega) (288) (d25)) ?_
 rintro t70 S70 ⟨d26, bd26, A26, c26, e26, ok26, rfl, rfl⟩
 refine AWL.nil (kpH (tcB 0 rfl rfl pinV (tcB 1 rfl rfl pinV (tc0))) ?_)
 refine AWH.done (by kernel_rfl) ?_
 refine AW.rseqH (HeldCs [(b4, 0, Value.int .i64 (d1)), (b3, 0, Value.pointer (some ⟨p, 0, none⟩))]) rfl (tells_cs (tcB 0 rfl rfl pinV (tcB 1 rfl rfl pinV (tc0)))) ?_
 refine T2 (i := 0) rfl (heldB 1 rfl ag_87 (E rfl rfl) rfl (fun _ _ => .v _)) ?_
 refine T2 (i := 1) rfl (heldB 1 rfl ag_87 (E rfl rfl) rfl (fun _ _ => .v _)) ?_
 refine T2 (i := 2) rfl (heldAll (freeMove rfl (E rfl rfl))) ?_
 refine AWH.one (i := 3) (by kernel_rfl) rfl ?_
 refine yl ag_87 1 ?_
 refine AWL.nil (kpH (tcB 0 rfl rfl pinV (tcB 1 rfl rfl pinV (tc0))) ?_)
 refine AWH.one (i := 4) (by kernel_rfl) rfl ?_
 refine AWL.callE rfl rfl (B rfl) rfl ce_87 (E rfl rfl) (evsC (E rfl rfl) (evsC (E rfl rfl) evs0)) (F1 := [Ent.box b4 3 [zi (d1)], Ent.box b3 87 [.v (.pointer (some ⟨p, 0, none⟩))], Ent.box b2 93 (([.string ⟨#[]⟩, .int .i64 0, .int .i64 0, .int .i64 0, .slice none 0 0] : List Value).map T.v)]) (S1 := (BdE p bd26 A26 c26)) rfl (cCell p (1 + 106) bd26 A26 c26 ok26 (by omega) (376)) ?_
 rintro t75 S75 ⟨d27, bd27, A27, c27, e27, ok27, rfl, rfl⟩
 refine AWL.nil (kpH (tcB 0 rfl rfl pinV (tcB 1 rfl rfl pinV (tc0))) ?_)
 refine AWH.one (i := 5) (by kernel_rfl) rfl ?_
 refine AWL.callE rfl rfl (B rfl) rfl ce_83 (E rfl rfl) (evsC (E rfl rfl) (evsC (E rfl rfl) (evsC (E rfl rfl) evs0))) (F1 := [Ent.box b4 3 [zi (d1)], Ent.box b3 87 [.v (.pointer (some ⟨p, 0, none⟩))], Ent.box b2 93 (([.string ⟨#[]⟩, .int .i64 0, .int .i64 0, .int .i64 0, .slice none 0 0] : List Value).map T.v)]) (S1 := (BdE p bd27 A27 c27)) rfl (cAdd p (1 + 110) bd27 A27 c27 ok27 (by omega) (d22) (d27)) ?_
 rintro t76 S76 ⟨d28, bd28, A28, c28, e28, ok28, rfl, rfl⟩
 refine AWL.nil (kpH (tcB 0 rfl rfl pinV (tcB 1 rfl rfl pinV (tc0))) ?_)
 refine AWH.one (i := 6) (by kernel_rfl) rfl ?_
 refine AWL.callE rfl rfl (B rfl) rfl ce_76 (E rfl rfl) (evsC (E rfl rfl) (evsC (E rfl rfl) (evsC (E rfl rfl) evs0))) (F1 := [Ent.box b4 3 [zi (d1)], Ent.box b3 87 [.v (.pointer (some ⟨p, 0, none⟩))], Ent.box b2 93 (([.string ⟨#[]⟩, .int .i64 0, .int .i64 0, .int .i64 0, .slice none 0 0] : List Value).map T.v)]) (S1 := (BdE p bd28 A28 c28)) rfl (cSetCell p (1 + 112) bd28 A28 c28 ok28 (by omega) (296) (d28)) ?_
 rintro t77 S77 ⟨d29, bd29, A29, c29, e29, ok29, rfl, rfl⟩
 refine AWL.nil (kpH (tcB 0 rfl rfl pinV (tcB 1 rfl rfl pinV (tc0))) ?_)
 refine AWH.done (by kernel_rfl) ?_
 refine rs (yl ag_87 1 ?_)
 refine AWL.callE rfl rfl (B rfl) rfl ce_95 (E rfl rfl) (evsC (E rfl rfl) evs0) (F1 := [Ent.box b4 3 [zi (d1)], Ent.box b3 87 [.v (.pointer (some ⟨p, 0, none⟩))], Ent.box b2 93 (([.string ⟨#[]⟩, .int .i64 0, .int .i64 0, .int .i64 0, .slice none 0 0] : List Value).map T.v)]) (S1 := (BdE p bd29 A29 c29)) rfl (cEmptied p (1 + 115) bd29 A29 c29 ok29 (by omega) ) ?_
 rintro t79 S79 ⟨d30, bd30, A30, c30, e30, ok30, rfl, rfl⟩
 refine nl ?_
 refine rs (yl ag_87 1 ?_)
 refine AWL.callE rfl rfl (B rfl) rfl ce_34 (E rfl rfl) (evsC (E rfl rfl) (evsC (E rfl rfl) evs0)) (F1 := [Ent.box b4 3 [zi (d1)], Ent.box b3 87 [.v (.pointer (some ⟨p, 0, none⟩))], Ent.box b2 93 (([.string ⟨#[]⟩, .int .i64 0, .int .i64 0, .int .i64 0, .slice none 0 0] : List Value).map T.v)]) (S1 := (BdE p bd30 A30 c30)) rfl (cRetC p (1 + 122) bd30 A30 c30 ok30 (by omega) (1)) ?_
 rintro t81 S81 ⟨d31, bd31, A31, c31, e31, ok31, rfl, rfl⟩
 refine nl ?_
 refine rs (yl ag_87 1 ?_)
 refine AWL.callE rfl rfl (B rfl) rfl ce_35 (E rfl rfl) (evsC (E rfl rfl) evs0) (F1 := [Ent.box b4 3 [zi (d1)], Ent.box b3 87 [.v (.pointer (some ⟨p, 0, none⟩))], Ent.box b2 93 (([.string ⟨#[]⟩, .int .i64 0, .int .i64 0, .int .i64 0, .slice none 0 0] : List Value).map T.v)]) (S1 := (BdE p bd31 A31 c31)) rfl (cDone p bd31 A31 c31) ?_
 rintro t83 S83 ⟨rfl, rfl⟩
 refine AWL.storeBox (i := 2) rfl rfl rfl ag_93 rfl (E rfl rfl) (E rfl rfl) rfl rfl nB (nl ?_)
 refine AW.ret (retI (.cellA (i := 2) rfl ag_93 rfl rfl rfl .nil) ?_)
 show _ = T.agg (fnCells (fnB (mMajorFn (bd0 [103, 99, 46, 109, 97, 106, 111, 114] 0)).2))
 rw [show mMajorFn (bd0 [103, 99, 46, 109, 97, 106, 111, 114] 0) = ((), bd31) from (bq e1).trans ((bq e2).trans ((bq e3).trans ((bq e4).trans ((bq e5).trans ((bq e6).trans ((bq e7).trans ((bq e8).trans ((bq e9).trans ((bq e10).trans ((bq e11).trans ((bq e12).trans ((bq e13).trans ((bq e14).trans ((bq e15).trans ((bq e16).trans ((bq e17).trans ((bq e18).trans ((bq e19).trans ((bq e20).trans ((bq e21).trans ((bq e22).trans ((bq e23).trans ((bq e24).trans ((bq e25).trans ((bq e26).trans ((bq e27).trans ((bq e28).trans ((bq e29).trans ((bq e30).trans (e31))))))))))))))))))))))))))))))]
 rfl

theorem cMajorFn : ACalls Tryz.prog 57 [zi 1] [] (fun t S => t = .agg (fnCells fMajorFn) ∧ S = []) := (cMajorFn_).less fun t S' h => ⟨[], List.nil_sublist _, h, rfl⟩
def mMarkFn : BM Unit :=
 bnd (mCell (280)) fun d1 =>
 bnd (mSub (0) (d1)) fun d2 =>
 bnd (mCell (376)) fun d3 =>
 bnd (mThen (5) (d2) (d3) (mMark1 (0))) fun _ =>
 mRetC (1)
def fMarkFn : Fn := fnB (mMarkFn (bd0 [103, 99, 46, 109, 97, 114, 107] 1)).2
set_option maxHeartbeats 16000000 in
theorem cMarkFn_  :
    ACalls Tryz.prog 58 [] [] (fun t S => t = .agg (fnCells (fMarkFn))) := by
 refine ACalls.intro Tryz.func58 rfl Tryz.ntmps58 nB rfl fun X w0 => ?_
 refine rs ?_
 refine AWL.allocOp rfl rfl (B rfl) rfl zc_93 (fun b0 => ?_)
 refine AWL.perm (List.perm_append_singleton _ _).symm (nl ?_)
 refine rs ?_
 refine AWL.callE rfl rfl (B rfl) rfl ce_32 (E rfl rfl) (evsC (E rfl rfl) (evsC (E rfl rfl) evs0)) (F1 := [Ent.box b0 93 (([.string ⟨#[]⟩, .int .i64 0, .int .i64 0, .int .i64 0, .slice none 0 0] : List Value).map T.v)]) (S1 := []) rfl (cNew [103, 99, 46, 109, 97, 114, 107] 1) ?_
 rintro t3 S3 ⟨p, rfl, rfl⟩
 have ok0 : BdOk 1 (bd0 [103, 99, 46, 109, 97, 114, 107] 1) := ⟨by decide, by decide, by decide, by decide, by decide, by decide, by decide⟩
 refine AWL.allocOp rfl rfl (B rfl) rfl zc_87 (fun b1 => ?_)
 refine AWL.perm (List.perm_append_singleton _ _).symm ?_
 refine AWL.storeBox (i := 0) rfl rfl rfl ag_87 rfl (E rfl rfl) (E rfl rfl) rfl rfl nB (nl ?_)
 refine rs ?_
 refine AWL.allocOp rfl rfl (B rfl) rfl zc_3 (fun b2 => ?_)
 refine AWL.perm (List.perm_append_singleton _ _).symm ?_
 refine AWL.storeBox (i := 0) rfl rfl rfl ag_3 rfl (E rfl rfl) (E rfl rfl) rfl rfl nB (nl ?_)
 refine AW.rseqH (HeldCs [(b2, 0, Value.int .i64 (0)), (b1, 0, Value.pointer (some ⟨p, 0, none⟩))]) rfl (tells_cs (tcB 0 rfl rfl pinV (tcB 1 rfl rfl pinV (tc0)))) ?_
 refine T2 (i := 0) rfl (heldB 1 rfl ag_87 (E rfl rfl) rfl (fun _ _ => .v _)) ?_
 refine T2 (i := 1) rfl (heldB 1 rfl ag_87 (E rfl rfl) rfl (fun _ _ => .v _)) ?_
 refine T2 (i := 2) rfl (heldB 0 rfl ag_3 (E rfl rfl) rfl (fun _ _ => .v _)) ?_
 refine T2 (i := 3) rfl (heldB 1 rfl ag_87 (E rfl rfl) rfl (fun _ _ => .v _)) ?_
 refine T2 (i := 6) rfl (heldB 1 rfl ag_87 (E rfl rfl) rfl (fun _ _ => .v _)) ?_
 refine T2 (i := 8) rfl (heldAll (freeMk rfl evs0 rfl (evsC (E rfl rfl) (evsC (E rfl rfl) evs0)) rfl)) ?_
 refine AWH.one (i := 4) (by kernel_rfl) rfl ?_
 refine AWL.callE rfl rfl (B rfl) rfl ce_87 (E rfl rfl) (evsC (E rfl rfl) (evsC (E rfl rfl) evs0)) (F1 := [Ent.box b2 3 [zi (0)], Ent.box b1 87 [.v (.pointer (some ⟨p, 0, none⟩))], Ent.box b0 93 (([.string ⟨#[]⟩, .int .i64 0, .int .i64 0, .int .i64 0, .slice none 0 0] : List Value).map T.v)]) (S1 := (BdE p (bd0 [103, 99, 46, 109, 97, 114, 107] 1) none 0)) rfl (cCell p 1 (bd0 [103, 99, 46, 109, 97, 114, 107] 1) none 0 ok0 (by omega) (280)) ?_
 rintro t8 S8 ⟨d1, bd1, A1, c1, e1, ok1, rfl, rfl⟩
 refine AWL.nil (kpH (tcB 0 rfl rfl pinV (tcB 1 rfl rfl pinV (tc0))) ?_)
 refine AWH.one (i := 5) (by kernel_rfl) rfl ?_
 refine AWL.callE rfl rfl (B rfl) rfl ce_86 (E rfl rfl) (evsC (E rfl rfl) (evsC (E rfl rfl) (evsC (E rfl rfl) evs0))) (F1 := [Ent.box b2 3 [zi (0)], Ent.box b1 87 [.v (.pointer (some ⟨p, 0, none⟩))], Ent.box b0 93 (([.string ⟨#[]⟩, .int .i64 0, .int .i64 0, .int .i64 0, .slice none 0 0] : List Value).map T.v)]) (S1 := (BdE p bd1 A1 c1)) rfl (cSub p (1 + 4) bd1 A1 c1 ok1 (by omega) (0) (d1)) ?_
 rintro t9 S9 ⟨d2, bd2, A2, c2, e2, ok2, rfl, rfl⟩
 refine AWL.nil (kpH (tcB 0 rfl rfl pinV (tcB 1 rfl rfl pinV (tc0))) ?_)
 refine AWH.one (i := 7) (by kernel_rfl) rfl ?_
 refine AWL.callE rfl rfl (B rfl) rfl ce_87 (E rfl rfl) (evsC (E rfl rfl) (evsC (E rfl rfl) evs0)) (F1 := [Ent.box b2 3 [zi (0)], Ent.box b1 87 [.v (.pointer (some ⟨p, 0, none⟩))], Ent.box b0 93 (([.string ⟨#[]⟩, .int .i64 0, .int .i64 0, .int .i64 0, .slice none 0 0] : List Value).map T.v)]) (S1 := (BdE p bd2 A2 c2)) rfl (cCell p (1 + 6) bd2 A2 c2 ok2 (by omega) (376)) ?_
 rintro t11 S11 ⟨d3, bd3, A3, c3, e3, ok3, rfl, rfl⟩
 refine AWL.nil (kpH (tcB 0 rfl rfl pinV (tcB 1 rfl rfl pinV (tc0))) ?_)
 refine AWH.one (i := 9) (by kernel_rfl) rfl ?_
 refine AWL.callAll rfl rfl (B rfl) rfl ce_80 (E rfl rfl) (evsC (E rfl rfl) (evsC (E rfl rfl) (evsC (E rfl rfl) (evsC (E rfl rfl) (evsC (E rfl rfl) evs0))))) (cThen p (1 + 10) 40 bd3 A3 c3 ok3 (by omega) (5) (d2) (d3) 101 #[.pointer (some ⟨b1, 0, none⟩), .pointer (some ⟨b2, 0, none⟩)] [Ent.box b2 3 [zi (0)], Ent.box b1 87 [.v (.pointer (some ⟨p, 0, none⟩))], Ent.box b0 93 (([.string ⟨#[]⟩, .int .i64 0, .int .i64 0, .int .i64 0, .slice none 0 0] : List Value).map T.v)] (mMark1 (0)) ce_101 (fun bd9 A9 c9 ok9 => cMark1 p _ bd9 A9 c9 ok9 (by omega) [Ent.box b2 3 [zi (0)], Ent.box b1 87 [.v (.pointer (some ⟨p, 0, none⟩))], Ent.box b0 93 (([.string ⟨#[]⟩, .int .i64 0, .int .i64 0, .int .i64 0, .slice none 0 0] : List Value).map T.v)] 1 b1 rfl 0 b2 (0) rfl)) ?_
 rintro t13 S13 ⟨rfl, bd4, A4, c4, e4, ok4, rfl⟩
 refine AWL.nil (kpH (tcB 0 rfl rfl pinV (tcB 1 rfl rfl pinV (tc0))) ?_)
 refine AWH.done (by kernel_rfl) ?_
 refine rs (yl ag_87 1 ?_)
 refine AWL.callE rfl rfl (B rfl) rfl ce_34 (E rfl rfl) (evsC (E rfl rfl) (evsC (E rfl rfl) evs0)) (F1 := [Ent.box b2 3 [zi (0)], Ent.box b1 87 [.v (.pointer (some ⟨p, 0, none⟩))], Ent.box b0 93 (([.string ⟨#[]⟩, .int .i64 0, .int .i64 0, .int .i64 0, .slice none 0 0] : List Value).map T.v)]) (S1 := (BdE p bd4 A4 c4)) rfl (cRetC p (1 + 53) bd4 A4 c4 ok4 (by omega) (1)) ?_
 rintro t15 S15 ⟨d5, bd5, A5, c5, e5, ok5, rfl, rfl⟩
 refine nl ?_
 refine rs (yl ag_87 1 ?_)
 refine AWL.callE rfl rfl (B rfl) rfl ce_35 (E rfl rfl) (evsC (E rfl rfl) evs0) (F1 := [Ent.box b2 3 [zi (0)], Ent.box b1 87 [.v (.pointer (some ⟨p, 0, none⟩))], Ent.box b0 93 (([.string ⟨#[]⟩, .int .i64 0, .int .i64 0, .int .i64 0, .slice none 0 0] : List Value).map T.v)]) (S1 := (BdE p bd5 A5 c5)) rfl (cDone p bd5 A5 c5) ?_
 rintro t17 S17 ⟨rfl, rfl⟩
 refine AWL.storeBox (i := 2) rfl rfl rfl ag_93 rfl (E rfl rfl) (E rfl rfl) rfl rfl nB (nl ?_)
 refine AW.ret (retI (.cellA (i := 2) rfl ag_93 rfl rfl rfl .nil) ?_)
 show _ = T.agg (fnCells (fnB (mMarkFn (bd0 [103, 99, 46, 109, 97, 114, 107] 1)).2))
 rw [show mMarkFn (bd0 [103, 99, 46, 109, 97, 114, 107] 1) = ((), bd5) from (bq e1).trans ((bq e2).trans ((bq e3).trans ((bq e4).trans (e5))))]
 rfl

theorem cMarkFn : ACalls Tryz.prog 58 [] [] (fun t S => t = .agg (fnCells fMarkFn) ∧ S = []) := (cMarkFn_).less fun t S' h => ⟨[], List.nil_sublist _, h, rfl⟩
def mCopiedFn : BM Unit :=
 bnd (mGet (0) (0)) fun d1 =>
 bnd (mAnd (d1) (1)) fun d2 =>
 bnd (mThenC (1) (d2) (0) (mCopied1 (d1))) fun _ =>
 bnd (mCall ((1 + 6)) [d1]) fun d4 =>
 bnd (mCell (328)) fun d5 =>
 bnd (mAdd (d5) (d4)) fun d6 =>
 bnd (mCell (336)) fun d7 =>
 bnd (mThen (5) (d7) (d6) (mCopied2 )) fun _ =>
 bnd (mSetCell (328) (d6)) fun _ =>
 bnd (mC (0)) fun d10 =>
 bnd (mWhile (3) (mCopied3 (d10) (d4)) (mCopied4 (d5) (d10) (0))) fun _ =>
 bnd (mGet (d5) (0)) fun d12 =>
 bnd (mAnd (d12) ((-33))) fun d13 =>
 bnd (mSave (d5) (0) (d13)) fun _ =>
 bnd (mSave (0) (0) (d5)) fun _ =>
 mRet (d5)
def fCopiedFn : Fn := fnB (mCopiedFn (bd0 [103, 99, 46, 99, 111, 112, 105, 101, 100] 1)).2
set_option maxHeartbeats 16000000 in
theorem cCopiedFn_  :
    ACalls Tryz.prog 61 [zi 1] [] (fun t S => t = .agg (fnCells (fCopiedFn))) := by
 refine ACalls.intro Tryz.func61 rfl Tryz.ntmps61 nB rfl fun X w0 => ?_
 refine rs ?_
 refine AWL.boxOp rfl rfl (B rfl) rfl (E rfl rfl) rfl (fun b1 => ?_)
 refine AWL.perm (List.perm_append_singleton _ _).symm ?_
 refine AWL.allocOp rfl rfl (B rfl) rfl zc_93 (fun b2 => ?_)
 refine AWL.perm (List.perm_append_singleton _ _).symm (nl ?_)
 refine rs ?_
 refine AWL.callE rfl rfl (B rfl) rfl ce_32 (E rfl rfl) (evsC (E rfl rfl) (evsC (E rfl rfl) evs0)) (F1 := [Ent.box b2 93 (([.string ⟨#[]⟩, .int .i64 0, .int .i64 0, .int .i64 0, .slice none 0 0] : List Value).map T.v), Ent.box b1 3 [zi (1)]]) (S1 := []) rfl (cNew [103, 99, 46, 99, 111, 112, 105, 101, 100] 1) ?_
 rintro t10 S10 ⟨p, rfl, rfl⟩
 have ok0 : BdOk 1 (bd0 [103, 99, 46, 99, 111, 112, 105, 101, 100] 1) := ⟨by decide, by decide, by decide, by decide, by decide, by decide, by decide⟩
 refine AWL.allocOp rfl rfl (B rfl) rfl zc_87 (fun b3 => ?_)
 refine AWL.perm (List.perm_append_singleton _ _).symm ?_
 refine AWL.storeBox (i := 0) rfl rfl rfl ag_87 rfl (E rfl rfl) (E rfl rfl) rfl rfl nB (nl ?_)
 refine rs ?_
 refine AWL.allocOp rfl rfl (B rfl) rfl zc_3 (fun b4 => ?_)
 refine AWL.perm (List.perm_append_singleton _ _).symm ?_
 refine AWL.storeBox (i := 0) rfl rfl rfl ag_3 rfl (E rfl rfl) (E rfl rfl) rfl rfl nB (nl ?_)
 refine rs (yl ag_87 1 ?_)
 refine yl ag_3 0 ?_
 refine AWL.callE rfl rfl (B rfl) rfl ce_99 (E rfl rfl) (evsC (E rfl rfl) (evsC (E rfl rfl) (evsC (E rfl rfl) evs0))) (F1 := [Ent.box b4 3 [zi (0)], Ent.box b3 87 [.v (.pointer (some ⟨p, 0, none⟩))], Ent.box b2 93 (([.string ⟨#[]⟩, .int .i64 0, .int .i64 0, .int .i64 0, .slice none 0 0] : List Value).map T.v), Ent.box b1 3 [zi (1)]]) (S1 := (BdE p (bd0 [103, 99, 46, 99, 111, 112, 105, 101, 100] 1) none 0)) rfl (cGet p 1 (bd0 [103, 99, 46, 99, 111, 112, 105, 101, 100] 1) none 0 ok0 (by omega) (0) (0)) ?_
 rintro t13 S13 ⟨d1, bd1, A1, c1, e1, ok1, rfl, rfl⟩
 refine AWL.allocOp rfl rfl (B rfl) rfl zc_3 (fun b5 => ?_)
 refine AWL.perm (List.perm_append_singleton _ _).symm ?_
 refine AWL.storeBox (i := 0) rfl rfl rfl ag_3 rfl (E rfl rfl) (E rfl rfl) rfl rfl nB (nl ?_)
 refine AW.rseqH (HeldCs [(b5, 0, Value.int .i64 (d1)), (b4, 0, Value.int .i64 (0)), (b3, 0, Value.pointer (some ⟨p, 0, none⟩)), (b1, 0, Value.int .i64 (1))]) rfl (tells_cs (tcB 0 rfl rfl pinV (tcB 1 rfl rfl pinV (tcB 2 rfl rfl pinV (tcB 4 rfl rfl pinV (tc0)))))) ?_
 refine T2 (i := 0) rfl (heldB 2 rfl ag_87 (E rfl rfl) rfl (fun _ _ => .v _)) ?_
 refine T2 (i := 1) rfl (heldB 2 rfl ag_87 (E rfl rfl) rfl (fun _ _ => .v _)) ?_
 refine T2 (i := 2) rfl (heldB 0 rfl ag_3 (E rfl rfl) rfl (fun _ _ => .v _)) ?_
 refine T2 (i := 4) rfl (heldAll (freeMk rfl evs0 rfl (evsC (E rfl rfl) (evsC (E rfl rfl) evs0)) rfl)) ?_
 refine AWH.one (i := 3) (by kernel_rfl) rfl ?_
 refine AWL.callE rfl rfl (B rfl) rfl ce_100 (E rfl rfl) (evsC (E rfl rfl) (evsC (E rfl rfl) (evsC (E rfl rfl) evs0))) (F1 := [Ent.box b5 3 [zi (d1)], Ent.box b4 3 [zi (0)], Ent.box b3 87 [.v (.pointer (some ⟨p, 0, none⟩))], Ent.box b2 93 (([.string ⟨#[]⟩, .int .i64 0, .int .i64 0, .int .i64 0, .slice none 0 0] : List Value).map T.v), Ent.box b1 3 [zi (1)]]) (S1 := (BdE p bd1 A1 c1)) rfl (cAnd p (1 + 2) bd1 A1 c1 ok1 (by omega) (d1) (1)) ?_
 rintro t17 S17 ⟨d2, bd2, A2, c2, e2, ok2, rfl, rfl⟩
 refine AWL.nil (kpH (tcB 0 rfl rfl pinV (tcB 1 rfl rfl pinV (tcB 2 rfl rfl pinV (tcB 4 rfl rfl pinV (tc0))))) ?_)
 refine AWH.one (i := 5) (by kernel_rfl) rfl ?_
 refine AWL.callAll rfl rfl (B rfl) rfl ce_102 (E rfl rfl) (evsC (E rfl rfl) (evsC (E rfl rfl) (evsC (E rfl rfl) (evsC (E rfl rfl) (evsC (E rfl rfl) evs0))))) (cThenC p (1 + 6) 1 bd2 A2 c2 ok2 (by omega) (1) (d2) (0) 108 #[.pointer (some ⟨b3, 0, none⟩), .pointer (some ⟨b5, 0, none⟩)] [Ent.box b5 3 [zi (d1)], Ent.box b4 3 [zi (0)], Ent.box b3 87 [.v (.pointer (some ⟨p, 0, none⟩))], Ent.box b2 93 (([.string ⟨#[]⟩, .int .i64 0, .int .i64 0, .int .i64 0, .slice none 0 0] : List Value).map T.v), Ent.box b1 3 [zi (1)]] (mCopied1 (d1)) ce_108 (fun bd9 A9 c9 ok9 => cCopied1 p _ bd9 A9 c9 ok9 (by omega) [Ent.box b5 3 [zi (d1)], Ent.box b4 3 [zi (0)], Ent.box b3 87 [.v (.pointer (some ⟨p, 0, none⟩))], Ent.box b2 93 (([.string ⟨#[]⟩, .int .i64 0, .int .i64 0, .int .i64 0, .slice none 0 0] : List Value).map T.v), Ent.box b1 3 [zi (1)]] 2 b3 rfl 0 b5 (d1) rfl)) ?_
 rintro t19 S19 ⟨rfl, bd3, A3, c3, e3, ok3, rfl⟩
 refine AWL.nil (kpH (tcB 0 rfl rfl pinV (tcB 1 rfl rfl pinV (tcB 2 rfl rfl pinV (tcB 4 rfl rfl pinV (tc0))))) ?_)
 refine AWH.done (by kernel_rfl) ?_
 refine rs (yl ag_87 2 ?_)
 refine yl ag_3 4 ?_
 refine Y1 (Yv.addN_i64 rfl eV eV (fun hg => by omega)) ?_
 refine yl ag_3 0 ?_
 refine AWL.buildSlice1 rfl rfl (B rfl) rfl el_35 rfl (evsC (E rfl rfl) evs0) nB rfl rfl ?_
 refine AWL.callE rfl rfl (B rfl) rfl ce_33 (E rfl rfl) (evsC (E rfl rfl) (evsC (E rfl rfl) (evsC (E rfl rfl) evs0))) (F1 := [Ent.box b5 3 [zi (d1)], Ent.box b4 3 [zi (0)], Ent.box b3 87 [.v (.pointer (some ⟨p, 0, none⟩))], Ent.box b2 93 (([.string ⟨#[]⟩, .int .i64 0, .int .i64 0, .int .i64 0, .slice none 0 0] : List Value).map T.v), Ent.box b1 3 [zi (1)]]) (S1 := (BdE p bd3 A3 c3)) rfl (cCall p (1 + 12) bd3 A3 c3 ok3 (by omega) ((1 + 6)) [d1]) ?_
 rintro t25 S25 ⟨d4, bd4, A4, c4, e4, ok4, rfl, rfl⟩
 refine AWL.allocOp rfl rfl (B rfl) rfl zc_3 (fun b6 => ?_)
 refine AWL.perm (List.perm_append_singleton _ _).symm ?_
 refine AWL.storeBox (i := 0) rfl rfl rfl ag_3 rfl (E rfl rfl) (E rfl rfl) rfl rfl nB (nl ?_)
 refine rs (yl ag_87 3 ?_)
 refine AWL.callE rfl rfl (B rfl) rfl ce_87 (E rfl rfl) (evsC (E rfl rfl) (evsC (E rfl rfl) evs0)) (F1 := [Ent.box b6 3 [zi (d4)], Ent.box b5 3 [zi (d1)], Ent.box b4 3 [zi (0)], Ent.box b3 87 [.v (.pointer (some ⟨p, 0, none⟩))], Ent.box b2 93 (([.string ⟨#[]⟩, .int .i64 0, .int .i64 0, .int .i64 0, .slice none 0 0] : List Value).map T.v), Ent.box b1 3 [zi (1)]]) (S1 := (BdE p bd4 A4 c4)) rfl (cCell p (1 + 14) bd4 A4 c4 ok4 (by omega) (328)) ?_
 rintro t27 S27 ⟨d5, bd5, A5, c5, e5, ok5, rfl, rfl⟩
 refine AWL.allocOp rfl rfl (B rfl) rfl zc_3 (fun b7 => ?_)
 refine AWL.perm (List.perm_append_singleton _ _).symm ?_
 refine AWL.storeBox (i := 0) rfl rfl rfl ag_3 rfl (E rfl rfl) (E rfl rfl) rfl rfl nB (nl ?_)
 refine rs (yl ag_87 4 ?_)
 refine yl ag_3 0 ?_
 refine yl ag_3 1 ?_
 refine AWL.callE rfl rfl (B rfl) rfl ce_83 (E rfl rfl) (evsC (E rfl rfl) (evsC (E rfl rfl) (evsC (E rfl rfl) evs0))) (F1 := [Ent.box b7 3 [zi (d5)], Ent.box b6 3 [zi (d4)], Ent.box b5 3 [zi (d1)], Ent.box b4 3 [zi (0)], Ent.box b3 87 [.v (.pointer (some ⟨p, 0, none⟩))], Ent.box b2 93 (([.string ⟨#[]⟩, .int .i64 0, .int .i64 0, .int .i64 0, .slice none 0 0] : List Value).map T.v), Ent.box b1 3 [zi (1)]]) (S1 := (BdE p bd5 A5 c5)) rfl (cAdd p (1 + 18) bd5 A5 c5 ok5 (by omega) (d5) (d4)) ?_
 rintro t31 S31 ⟨d6, bd6, A6, c6, e6, ok6, rfl, rfl⟩
 refine ya ?_
 refine AW.rseqH (HeldCs [(b7, 0, Value.int .i64 (d5)), (b6, 0, Value.int .i64 (d4)), (b5, 0, Value.int .i64 (d1)), (b4, 0, Value.int .i64 (0)), (b3, 0, Value.pointer (some ⟨p, 0, none⟩)), (b1, 0, Value.int .i64 (1))]) rfl (tells_cs (tcB 0 rfl rfl pinV (tcB 1 rfl rfl pinV (tcB 2 rfl rfl pinV (tcB 3 rfl rfl pinV (tcB 4 rfl rfl pinV (tcB 6 rfl rfl pinV (tc0)))))))) ?_
 refine T2 (i := 0) rfl (heldB 4 rfl ag_87 (E rfl rfl) rfl (fun _ _ => .v _)) ?_
 refine T2 (i := 1) rfl (heldB 4 rfl ag_87 (E rfl rfl) rfl (fun _ _ => .v _)) ?_
 refine T2 (i := 3) rfl (heldAll (freeMove rfl (E rfl rfl))) ?_
 refine T2 (i := 4) rfl (heldAll (freeMk rfl evs0 rfl (evsC (E rfl rfl) (evsC (E rfl rfl) evs0)) rfl)) ?_
 refine AWH.one (i := 2) (by kernel_rfl) rfl ?_
 refine AWL.callE rfl rfl (B rfl) rfl ce_87 (E rfl rfl) (evsC (E rfl rfl) (evsC (E rfl rfl) evs0)) (F1 := [Ent.box b7 3 [zi (d5)], Ent.box b6 3 [zi (d4)], Ent.box b5 3 [zi (d1)], Ent.box b4 3 [zi (0)], Ent.box b3 87 [.v (.pointer (some ⟨p, 0, none⟩))], Ent.box b2 93 (([.string ⟨#[]⟩, .int .i64 0, .int .i64 0, .int .i64 0, .slice none 0 0] : List Value).map T.v), Ent.box b1 3 [zi (1)]]) (S1 := (BdE p bd6 A6 c6)) rfl (cCell p (1 + 20) bd6 A6 c6 ok6 (by omega) (336)) ?_
 rintro t34 S34 ⟨d7, bd7, A7, c7, e7, ok7, rfl, rfl⟩
 refine AWL.nil (kpH (tcB 0 rfl rfl pinV (tcB 1 rfl rfl pinV (tcB 2 rfl rfl pinV (tcB 3 rfl rfl pinV (tcB 4 rfl rfl pinV (tcB 6 rfl rfl pinV (tc0))))))) ?_)
 refine AWH.one (i := 5) (by kernel_rfl) rfl ?_
 refine AWL.callAll rfl rfl (B rfl) rfl ce_80 (E rfl rfl) (evsC (E rfl rfl) (evsC (E rfl rfl) (evsC (E rfl rfl) (evsC (E rfl rfl) (evsC (E rfl rfl) evs0))))) (cThen p (1 + 24) 1 bd7 A7 c7 ok7 (by omega) (5) (d7) (d6) 109 #[.pointer (some ⟨b3, 0, none⟩), .pointer (some ⟨b1, 0, none⟩)] [Ent.box b7 3 [zi (d5)], Ent.box b6 3 [zi (d4)], Ent.box b5 3 [zi (d1)], Ent.box b4 3 [zi (0)], Ent.box b3 87 [.v (.pointer (some ⟨p, 0, none⟩))], Ent.box b2 93 (([.string ⟨#[]⟩, .int .i64 0, .int .i64 0, .int .i64 0, .slice none 0 0] : List Value).map T.v), Ent.box b1 3 [zi (1)]] (mCopied2 ) ce_109 (fun bd9 A9 c9 ok9 => cCopied2 p _ bd9 A9 c9 ok9 (by omega) [Ent.box b7 3 [zi (d5)], Ent.box b6 3 [zi (d4)], Ent.box b5 3 [zi (d1)], Ent.box b4 3 [zi (0)], Ent.box b3 87 [.v (.pointer (some ⟨p, 0, none⟩))], Ent.box b2 93 (([.string ⟨#[]⟩, .int .i64 0, .int .i64 0, .int .i64 0, .slice none 0 0] : List Value).map T.v), Ent.box b1 3 [zi (1)]] 4 b3 rfl 6 b1 rfl)) ?_
 rintro t37 S37 ⟨rfl, bd8, A8, c8, e8, ok8, rfl⟩
 refine AWL.nil (kpH (tcB 0 rfl rfl pinV (tcB 1 rfl rfl pinV (tcB 2 rfl rfl pinV (tcB 3 rfl rfl pinV (tcB 4 rfl rfl pinV (tcB 6 rfl rfl pinV (tc0))))))) ?_)
 refine AWH.done (by kernel_rfl) ?_
 refine rs (yl ag_87 4 ?_)
 refine ym ?_
 refine AWL.callE rfl rfl (B rfl) rfl ce_76 (E rfl rfl) (evsC (E rfl rfl) (evsC (E rfl rfl) (evsC (E rfl rfl) evs0))) (F1 := [Ent.box b7 3 [zi (d5)], Ent.box b6 3 [zi (d4)], Ent.box b5 3 [zi (d1)], Ent.box b4 3 [zi (0)], Ent.box b3 87 [.v (.pointer (some ⟨p, 0, none⟩))], Ent.box b2 93 (([.string ⟨#[]⟩, .int .i64 0, .int .i64 0, .int .i64 0, .slice none 0 0] : List Value).map T.v), Ent.box b1 3 [zi (1)]]) (S1 := (BdE p bd8 A8 c8)) rfl (cSetCell p (1 + 28) bd8 A8 c8 ok8 (by omega) (328) (d6)) ?_
 rintro t40 S40 ⟨d9, bd9, A9, c9, e9, ok9, rfl, rfl⟩
 refine nl ?_
 refine rs (yl ag_87 4 ?_)
 refine AWL.callE rfl rfl (B rfl) rfl ce_53 (E rfl rfl) (evsC (E rfl rfl) (evsC (E rfl rfl) evs0)) (F1 := [Ent.box b7 3 [zi (d5)], Ent.box b6 3 [zi (d4)], Ent.box b5 3 [zi (d1)], Ent.box b4 3 [zi (0)], Ent.box b3 87 [.v (.pointer (some ⟨p, 0, none⟩))], Ent.box b2 93 (([.string ⟨#[]⟩, .int .i64 0, .int .i64 0, .int .i64 0, .slice none 0 0] : List Value).map T.v), Ent.box b1 3 [zi (1)]]) (S1 := (BdE p bd9 A9 c9)) rfl (cC p (1 + 31) bd9 A9 c9 ok9 (by omega) (0)) ?_
 rintro t42 S42 ⟨d10, bd10, A10, c10, e10, ok10, rfl, rfl⟩
 refine AWL.allocOp rfl rfl (B rfl) rfl zc_3 (fun b9 => ?_)
 refine AWL.perm (List.perm_append_singleton _ _).symm ?_
 refine AWL.storeBox (i := 0) rfl rfl rfl ag_3 rfl (E rfl rfl) (E rfl rfl) rfl rfl nB (nl ?_)
 refine rs (yl ag_87 5 ?_)
 refine Y1 (Yv.makeFunc rfl evs0 rfl (evsC eV (evsC eV evs0)) rfl) ?_
 refine Y1 (Yv.makeFunc rfl evs0 rfl (evsC eV (evsC eV (evsC eV (evsC eV evs0)))) rfl) ?_
 refine AWL.callAll rfl rfl (B rfl) rfl ce_96 (E rfl rfl) (evsC (E rfl rfl) (evsC (E rfl rfl) (evsC (E rfl rfl) (evsC (E rfl rfl) evs0)))) (cWhile p (1 + 33) 10 0 bd10 A10 c10 ok10 (by omega) (3) 110 111 #[.pointer (some ⟨b9, 0, none⟩), .pointer (some ⟨b6, 0, none⟩)] #[.pointer (some ⟨b3, 0, none⟩), .pointer (some ⟨b7, 0, none⟩), .pointer (some ⟨b9, 0, none⟩), .pointer (some ⟨b4, 0, none⟩)] [Ent.box b9 3 [zi (d10)], Ent.box b7 3 [zi (d5)], Ent.box b6 3 [zi (d4)], Ent.box b5 3 [zi (d1)], Ent.box b4 3 [zi (0)], Ent.box b3 87 [.v (.pointer (some ⟨p, 0, none⟩))], Ent.box b2 93 (([.string ⟨#[]⟩, .int .i64 0, .int .i64 0, .int .i64 0, .slice none 0 0] : List Value).map T.v), Ent.box b1 3 [zi (1)]] (mCopied3 (d10) (d4)) (mCopied4 (d5) (d10) (0)) ce_110 ce_111 (fun bd9 A9 c9 ok9 => cCopied3 p _ bd9 A9 c9 ok9 (by omega) [Ent.box b9 3 [zi (d10)], Ent.box b7 3 [zi (d5)], Ent.box b6 3 [zi (d4)], Ent.box b5 3 [zi (d1)], Ent.box b4 3 [zi (0)], Ent.box b3 87 [.v (.pointer (some ⟨p, 0, none⟩))], Ent.box b2 93 (([.string ⟨#[]⟩, .int .i64 0, .int .i64 0, .int .i64 0, .slice none 0 0] : List Value).map T.v), Ent.box b1 3 [zi (1)]] 0 b9 (d10) rfl 2 b6 (d4) rfl) (fun bd9 A9 c9 ok9 => cCopied4 p _ bd9 A9 c9 ok9 (by omega) [Ent.box b9 3 [zi (d10)], Ent.box b7 3 [zi (d5)], Ent.box b6 3 [zi (d4)], Ent.box b5 3 [zi (d1)], Ent.box b4 3 [zi (0)], Ent.box b3 87 [.v (.pointer (some ⟨p, 0, none⟩))], Ent.box b2 93 (([.string ⟨#[]⟩, .int .i64 0, .int .i64 0, .int .i64 0, .slice none 0 0] : List Value).map T.v), Ent.box b1 3 [zi (1)]] 5 b3 rfl 1 b7 (d5) rfl 0 b9 (d10) rfl 4 b4 (0) rfl)) ?_
 rintro t46 S46 ⟨rfl, bd11, A11, c11, e11, ok11, rfl⟩
 refine nl ?_
 refine AW.rseqH (HeldCs [(b9, 0, Value.int .i64 (d10)), (b7, 0, Value.int .i64 (d5)), (b6, 0, Value.int .i64 (d4)), (b5, 0, Value.int .i64 (d1)), (b4, 0, Value.int .i64 (0)), (b3, 0, Value.pointer (some ⟨p, 0, none⟩)), (b1, 0, Value.int .i64 (1))]) rfl (tells_cs (tcB 0 rfl rfl pinV (tcB 1 rfl rfl pinV (tcB 2 rfl rfl pinV (tcB 3 rfl rfl pinV (tcB 4 rfl rfl pinV (tcB 5 rfl rfl pinV (tcB 7 rfl rfl pinV (tc0))))))))) ?_
 refine T2 (i := 0) rfl (heldB 5 rfl ag_87 (E rfl rfl) rfl (fun _ _ => .v _)) ?_
 refine T2 (i := 1) rfl (heldB 1 rfl ag_3 (E rfl rfl) rfl (fun _ _ => .v _)) ?_
 refine T2 (i := 2) rfl (heldB 5 rfl ag_87 (E rfl rfl) rfl (fun _ _ => .v _)) ?_
 refine T2 (i := 3) rfl (heldB 5 rfl ag_87 (E rfl rfl) rfl (fun _ _ => .v _)) ?_
 refine AWH.one (i := 4) (by kernel_rfl) rfl ?_
 refine yl ag_3 1 ?_
 refine AWL.nil (kpH (tcB 0 rfl rfl pinV (tcB 1 rfl rfl pinV (tcB 2 rfl rfl pinV (tcB 3 rfl rfl pinV (tcB 4 rfl rfl pinV (tcB 5 rfl rfl pinV (tcB 7 rfl rfl pinV (tc0)))))))) ?_)
 refine AWH.one (i := 5) (by kernel_rfl) rfl ?_
 refine AWL.callE rfl rfl (B rfl) rfl ce_99 (E rfl rfl) (evsC (E rfl rfl) (evsC (E rfl rfl) (evsC (E rfl rfl) evs0))) (F1 := [Ent.box b9 3 [zi (d10)], Ent.box b7 3 [zi (d5)], Ent.box b6 3 [zi (d4)], Ent.box b5 3 [zi (d1)], Ent.box b4 3 [zi (0)], Ent.box b3 87 [.v (.pointer (some ⟨p, 0, none⟩))], Ent.box b2 93 (([.string ⟨#[]⟩, .int .i64 0, .int .i64 0, .int .i64 0, .slice none 0 0] : List Value).map T.v), Ent.box b1 3 [zi (1)]]) (S1 := (BdE p bd11 A11 c11)) rfl (cGet p (1 + 49) bd11 A11 c11 ok11 (by omega) (d5) (0)) ?_
 rintro t52 S52 ⟨d12, bd12, A12, c12, e12, ok12, rfl, rfl⟩
 refine AWL.nil (kpH (tcB 0 rfl rfl pinV (tcB 1 rfl rfl pinV (tcB 2 rfl rfl pinV (tcB 3 rfl rfl pinV (tcB 4 rfl rfl pinV (tcB 5 rfl rfl pinV (tcB 7 rfl rfl pinV (tc0)))))))) ?_)
 refine AWH.one (i := 6) (by kernel_rfl) rfl ?_
 refine AWL.callE rfl rfl (B rfl) rfl ce_100 (E rfl rfl) (evsC (E rfl rfl) (evsC (E rfl rfl) (evsC (E rfl rfl) evs0))) (F1 := [Ent.box b9 3 [zi (d10)], Ent.box b7 3 [zi (d5)], Ent.box b6 3 [zi (d4)], Ent.box b5 3 [zi (d1)], Ent.box b4 3 [zi (0)], Ent.box b3 87 [.v (.pointer (some ⟨p, 0, none⟩))], Ent.box b2 93 (([.string ⟨#[]⟩, .int .i64 0, .int .i64 0, .int .i64 0, .slice none 0 0] : List Value).map T.v), Ent.box b1 3 [zi (1)]]) (S1 := (BdE p bd12 A12 c12)) rfl (cAnd p (1 + 51) bd12 A12 c12 ok12 (by omega) (d12) ((-33))) ?_
 rintro t53 S53 ⟨d13, bd13, A13, c13, e13, ok13, rfl, rfl⟩
 refine AWL.nil (kpH (tcB 0 rfl rfl pinV (tcB 1 rfl rfl pinV (tcB 2 rfl rfl pinV (tcB 3 rfl rfl pinV (tcB 4 rfl rfl pinV (tcB 5 rfl rfl pinV (tcB 7 rfl rfl pinV (tc0)))))))) ?_)
 refine AWH.one (i := 7) (by kernel_rfl) rfl ?_
 refine AWL.callE rfl rfl (B rfl) rfl ce_92 (E rfl rfl) (evsC (E rfl rfl) (evsC (E rfl rfl) (evsC (E rfl rfl) (evsC (E rfl rfl) evs0)))) (F1 := [Ent.box b9 3 [zi (d10)], Ent.box b7 3 [zi (d5)], Ent.box b6 3 [zi (d4)], Ent.box b5 3 [zi (d1)], Ent.box b4 3 [zi (0)], Ent.box b3 87 [.v (.pointer (some ⟨p, 0, none⟩))], Ent.box b2 93 (([.string ⟨#[]⟩, .int .i64 0, .int .i64 0, .int .i64 0, .slice none 0 0] : List Value).map T.v), Ent.box b1 3 [zi (1)]]) (S1 := (BdE p bd13 A13 c13)) rfl (cSave p (1 + 55) bd13 A13 c13 ok13 (by omega) (d5) (0) (d13)) ?_
 rintro t54 S54 ⟨d14, bd14, A14, c14, e14, ok14, rfl, rfl⟩
 refine AWL.nil (kpH (tcB 0 rfl rfl pinV (tcB 1 rfl rfl pinV (tcB 2 rfl rfl pinV (tcB 3 rfl rfl pinV (tcB 4 rfl rfl pinV (tcB 5 rfl rfl pinV (tcB 7 rfl rfl pinV (tc0)))))))) ?_)
 refine AWH.done (by kernel_rfl) ?_
 refine rs (yl ag_87 5 ?_)
 refine yl ag_3 4 ?_
 refine yl ag_3 1 ?_
 refine AWL.callE rfl rfl (B rfl) rfl ce_92 (E rfl rfl) (evsC (E rfl rfl) (evsC (E rfl rfl) (evsC (E rfl rfl) (evsC (E rfl rfl) evs0)))) (F1 := [Ent.box b9 3 [zi (d10)], Ent.box b7 3 [zi (d5)], Ent.box b6 3 [zi (d4)], Ent.box b5 3 [zi (d1)], Ent.box b4 3 [zi (0)], Ent.box b3 87 [.v (.pointer (some ⟨p, 0, none⟩))], Ent.box b2 93 (([.string ⟨#[]⟩, .int .i64 0, .int .i64 0, .int .i64 0, .slice none 0 0] : List Value).map T.v), Ent.box b1 3 [zi (1)]]) (S1 := (BdE p bd14 A14 c14)) rfl (cSave p (1 + 56) bd14 A14 c14 ok14 (by omega) (0) (0) (d5)) ?_
 rintro t58 S58 ⟨d15, bd15, A15, c15, e15, ok15, rfl, rfl⟩
 refine nl ?_
 refine rs (yl ag_87 5 ?_)
 refine yl ag_3 1 ?_
 refine AWL.callE rfl rfl (B rfl) rfl ce_52 (E rfl rfl) (evsC (E rfl rfl) (evsC (E rfl rfl) evs0)) (F1 := [Ent.box b9 3 [zi (d10)], Ent.box b7 3 [zi (d5)], Ent.box b6 3 [zi (d4)], Ent.box b5 3 [zi (d1)], Ent.box b4 3 [zi (0)], Ent.box b3 87 [.v (.pointer (some ⟨p, 0, none⟩))], Ent.box b2 93 (([.string ⟨#[]⟩, .int .i64 0, .int .i64 0, .int .i64 0, .slice none 0 0] : List Value).map T.v), Ent.box b1 3 [zi (1)]]) (S1 := (BdE p bd15 A15 c15)) rfl (cRet p (1 + 57) bd15 A15 c15 ok15 (by omega) (d5)) ?_
 rintro t61 S61 ⟨d16, bd16, A16, c16, e16, ok16, rfl, rfl⟩
 refine nl ?_
 refine rs (yl ag_87 5 ?_)
 refine AWL.callE rfl rfl (B rfl) rfl ce_35 (E rfl rfl) (evsC (E rfl rfl) evs0) (F1 := [Ent.box b9 3 [zi (d10)], Ent.box b7 3 [zi (d5)], Ent.box b6 3 [zi (d4)], Ent.box b5 3 [zi (d1)], Ent.box b4 3 [zi (0)], Ent.box b3 87 [.v (.pointer (some ⟨p, 0, none⟩))], Ent.box b2 93 (([.string ⟨#[]⟩, .int .i64 0, .int .i64 0, .int .i64 0, .slice none 0 0] : List Value).map T.v), Ent.box b1 3 [zi (1)]]) (S1 := (BdE p bd16 A16 c16)) rfl (cDone p bd16 A16 c16) ?_
 rintro t63 S63 ⟨rfl, rfl⟩
 refine AWL.storeBox (i := 6) rfl rfl rfl ag_93 rfl (E rfl rfl) (E rfl rfl) rfl rfl nB (nl ?_)
 refine AW.ret (retI (.cellA (i := 6) rfl ag_93 rfl rfl rfl .nil) ?_)
 show _ = T.agg (fnCells (fnB (mCopiedFn (bd0 [103, 99, 46, 99, 111, 112, 105, 101, 100] 1)).2))
 rw [show mCopiedFn (bd0 [103, 99, 46, 99, 111, 112, 105, 101, 100] 1) = ((), bd16) from (bq e1).trans ((bq e2).trans ((bq e3).trans ((bq e4).trans ((bq e5).trans ((bq e6).trans ((bq e7).trans ((bq e8).trans ((bq e9).trans ((bq e10).trans ((bq e11).trans ((bq e12).trans ((bq e13).trans ((bq e14).trans ((bq e15).trans (e16)))))))))))))))]
 rfl

theorem cCopiedFn : ACalls Tryz.prog 61 [zi 1] [] (fun t S => t = .agg (fnCells fCopiedFn) ∧ S = []) := (cCopiedFn_).less fun t S' h => ⟨[], List.nil_sublist _, h, rfl⟩
def mForwardFn : BM Unit :=
 bnd (mAnd (0) (1)) fun d1 =>
 bnd (mThenC (2) (d1) (0) (mForward1 (0))) fun _ =>
 bnd (mCell (344)) fun d3 =>
 bnd (mSub (0) (d3)) fun d4 =>
 bnd (mCell (352)) fun d5 =>
 bnd (mThen (5) (d4) (d5) (mForward2 (0))) fun _ =>
 bnd (mCell (360)) fun d7 =>
 bnd (mSub (0) (d7)) fun d8 =>
 bnd (mCell (368)) fun d9 =>
 bnd (mThen (5) (d8) (d9) (mForward3 (0))) fun _ =>
 mRet (0)
def fForwardFn : Fn := fnB (mForwardFn (bd0 [103, 99, 46, 102, 111, 114, 119, 97, 114, 100] 1)).2
set_option maxHeartbeats 16000000 in
theorem cForwardFn_  :
    ACalls Tryz.prog 62 [zi 1] [] (fun t S => t = .agg (fnCells (fForwardFn))) := by
 refine ACalls.intro Tryz.func62 rfl Tryz.ntmps62 nB rfl fun X w0 => ?_
 refine rs ?_
 refine AWL.boxOp rfl rfl (B rfl) rfl (E rfl rfl) rfl (fun b1 => ?_)
 refine AWL.perm (List.perm_append_singleton _ _).symm ?_
 refine AWL.allocOp rfl rfl (B rfl) rfl zc_93 (fun b2 => ?_)
 refine AWL.perm (List.perm_append_singleton _ _).symm (nl ?_)
 refine rs ?_
 refine AWL.callE rfl rfl (B rfl) rfl ce_32 (E rfl rfl) (evsC (E rfl rfl) (evsC (E rfl rfl) evs0)) (F1 := [Ent.box b2 93 (([.string ⟨#[]⟩, .int .i64 0, .int .i64 0, .int .i64 0, .slice none 0 0] : List Value).map T.v), Ent.box b1 3 [zi (1)]]) (S1 := []) rfl (cNew [103, 99, 46, 102, 111, 114, 119, 97, 114, 100] 1) ?_
 rintro t5 S5 ⟨p, rfl, rfl⟩
 have ok0 : BdOk 1 (bd0 [103, 99, 46, 102, 111, 114, 119, 97, 114, 100] 1) := ⟨by decide, by decide, by decide, by decide, by decide, by decide, by decide⟩
 refine AWL.allocOp rfl rfl (B rfl) rfl zc_87 (fun b3 => ?_)
 refine AWL.perm (List.perm_append_singleton _ _).symm ?_
 refine AWL.storeBox (i := 0) rfl rfl rfl ag_87 rfl (E rfl rfl) (E rfl rfl) rfl rfl nB (nl ?_)
 refine rs ?_
 refine AWL.allocOp rfl rfl (B rfl) rfl zc_3 (fun b4 => ?_)
 refine AWL.perm (List.perm_append_singleton _ _).symm ?_
 refine AWL.storeBox (i := 0) rfl rfl rfl ag_3 rfl (E rfl rfl) (E rfl rfl) rfl rfl nB (nl ?_)
 refine AW.rseqH (HeldCs [(b4, 0, Value.int .i64 (0)), (b3, 0, Value.pointer (some ⟨p, 0, none⟩)), (b1, 0, Value.int .i64 (1))]) rfl (tells_cs (tcB 0 rfl rfl pinV (tcB 1 rfl rfl pinV (tcB 3 rfl rfl pinV (tc0))))) ?_
 refine T2 (i := 0) rfl (heldB 1 rfl ag_87 (E rfl rfl) rfl (fun _ _ => .v _)) ?_
 refine T2 (i := 1) rfl (heldB 1 rfl ag_87 (E rfl rfl) rfl (fun _ _ => .v _)) ?_
 refine T2 (i := 2) rfl (heldB 0 rfl ag_3 (E rfl rfl) rfl (fun _ _ => .v _)) ?_
 refine T2 (i := 4) rfl (heldAll (freeMk rfl evs0 rfl (evsC (E rfl rfl) (evsC (E rfl rfl) evs0)) rfl)) ?_
 refine AWH.one (i := 3) (by kernel_rfl) rfl ?_
 refine AWL.callE rfl rfl (B rfl) rfl ce_100 (E rfl rfl) (evsC (E rfl rfl) (evsC (E rfl rfl) (evsC (E rfl rfl) evs0))) (F1 := [Ent.box b4 3 [zi (0)], Ent.box b3 87 [.v (.pointer (some ⟨p, 0, none⟩))], Ent.box b2 93 (([.string ⟨#[]⟩, .int .i64 0, .int .i64 0, .int .i64 0, .slice none 0 0] : List Value).map T.v), Ent.box b1 3 [zi (1)]]) (S1 := (BdE p (bd0 [103, 99, 46, 102, 111, 114, 119, 97, 114, 100] 1) none 0)) rfl (cAnd p 1 (bd0 [103, 99, 46, 102, 111, 114, 119, 97, 114, 100] 1) none 0 ok0 (by omega) (0) (1)) ?_
 rintro t9 S9 ⟨d1, bd1, A1, c1, e1, ok1, rfl, rfl⟩
 refine AWL.nil (kpH (tcB 0 rfl rfl pinV (tcB 1 rfl rfl pinV (tcB 3 rfl rfl pinV (tc0)))) ?_)
 refine AWH.one (i := 5) (by kernel_rfl) rfl ?_
 refine AWL.callAll rfl rfl (B rfl) rfl ce_102 (E rfl rfl) (evsC (E rfl rfl) (evsC (E rfl rfl) (evsC (E rfl rfl) (evsC (E rfl rfl) (evsC (E rfl rfl) evs0))))) (cThenC p (1 + 4) 1 bd1 A1 c1 ok1 (by omega) (2) (d1) (0) 112 #[.pointer (some ⟨b3, 0, none⟩), .pointer (some ⟨b4, 0, none⟩)] [Ent.box b4 3 [zi (0)], Ent.box b3 87 [.v (.pointer (some ⟨p, 0, none⟩))], Ent.box b2 93 (([.string ⟨#[]⟩, .int .i64 0, .int .i64 0, .int .i64 0, .slice none 0 0] : List Value).map T.v), Ent.box b1 3 [zi (1)]] (mForward1 (0)) ce_112 (fun bd9 A9 c9 ok9 => cForward1 p _ bd9 A9 c9 ok9 (by omega) [Ent.box b4 3 [zi (0)], Ent.box b3 87 [.v (.pointer (some ⟨p, 0, none⟩))], Ent.box b2 93 (([.string ⟨#[]⟩, .int .i64 0, .int .i64 0, .int .i64 0, .slice none 0 0] : List Value).map T.v), Ent.box b1 3 [zi (1)]] 1 b3 rfl 0 b4 (0) rfl)) ?_
 rintro t11 S11 ⟨rfl, bd2, A2, c2, e2, ok2, rfl⟩
 refine AWL.nil (kpH (tcB 0 rfl rfl pinV (tcB 1 rfl rfl pinV (tcB 3 rfl rfl pinV (tc0)))) ?_)
 refine AWH.done (by kernel_rfl) ?_
 refine AW.rseqH (HeldCs [(b4, 0, Value.int .i64 (0)), (b3, 0, Value.pointer (some ⟨p, 0, none⟩)), (b1, 0, Value.int .i64 (1))]) rfl (tells_cs (tcB 0 rfl rfl pinV (tcB 1 rfl rfl pinV (tcB 3 rfl rfl pinV (tc0))))) ?_
 refine T2 (i := 0) rfl (heldB 1 rfl ag_87 (E rfl rfl) rfl (fun _ _ => .v _)) ?_
 refine T2 (i := 1) rfl (heldB 1 rfl ag_87 (E rfl rfl) rfl (fun _ _ => .v _)) ?_
 refine T2 (i := 2) rfl (heldB 0 rfl ag_3 (E rfl rfl) rfl (fun _ _ => .v _)) ?_
 refine T2 (i := 3) rfl (heldB 1 rfl ag_87 (E rfl rfl) rfl (fun _ _ => .v _)) ?_
 refine T2 (i := 6) rfl (heldB 1 rfl ag_87 (E rfl rfl) rfl (fun _ _ => .v _)) ?_
 refine T2 (i := 8) rfl (heldAll (freeMk rfl evs0 rfl (evsC (E rfl rfl) (evsC (E rfl rfl) (evsC (E rfl rfl) evs0))) rfl)) ?_
 refine AWH.one (i := 4) (by kernel_rfl) rfl ?_
 refine AWL.callE rfl rfl (B rfl) rfl ce_87 (E rfl rfl) (evsC (E rfl rfl) (evsC (E rfl rfl) evs0)) (F1 := [Ent.box b4 3 [zi (0)], Ent.box b3 87 [.v (.pointer (some ⟨p, 0, none⟩))], Ent.box b2 93 (([.string ⟨#[]⟩, .int .i64 0, .int .i64 0, .int .i64 0, .slice none 0 0] : List Value).map T.v), Ent.box b1 3 [zi (1)]]) (S1 := (BdE p bd2 A2 c2)) rfl (cCell p (1 + 10) bd2 A2 c2 ok2 (by omega) (344)) ?_
 rintro t16 S16 ⟨d3, bd3, A3, c3, e3, ok3, rfl, rfl⟩
 refine AWL.nil (kpH (tcB 0 rfl rfl pinV (tcB 1 rfl rfl pinV (tcB 3 rfl rfl pinV (tc0)))) ?_)
 refine AWH.one (i := 5) (by kernel_rfl) rfl ?_
 refine AWL.callE rfl rfl (B rfl) rfl ce_86 (E rfl rfl) (evsC (E rfl rfl) (evsC (E rfl rfl) (evsC (E rfl rfl) evs0))) (F1 := [Ent.box b4 3 [zi (0)], Ent.box b3 87 [.v (.pointer (some ⟨p, 0, none⟩))], Ent.box b2 93 (([.string ⟨#[]⟩, .int .i64 0, .int .i64 0, .int .i64 0, .slice none 0 0] : List Value).map T.v), Ent.box b1 3 [zi (1)]]) (S1 := (BdE p bd3 A3 c3)) rfl (cSub p (1 + 14) bd3 A3 c3 ok3 (by omega) (0) (d3)) ?_
 rintro t17 S17 ⟨d4, bd4, A4, c4, e4, ok4, rfl, rfl⟩
 refine AWL.nil (kpH (tcB 0 rfl rfl pinV (tcB 1 rfl rfl pinV (tcB 3 rfl rfl pinV (tc0)))) ?_)
 refine AWH.one (i := 7) (by kernel_rfl) rfl ?_
 refine AWL.callE rfl rfl (B rfl) rfl ce_87 (E rfl rfl) (evsC (E rfl rfl) (evsC (E rfl rfl) evs0)) (F1 := [Ent.box b4 3 [zi (0)], Ent.box b3 87 [.v (.pointer (some ⟨p, 0, none⟩))], Ent.box b2 93 (([.string ⟨#[]⟩, .int .i64 0, .int .i64 0, .int .i64 0, .slice none 0 0] : List Value).map T.v), Ent.box b1 3 [zi (1)]]) (S1 := (BdE p bd4 A4 c4)) rfl (cCell p (1 + 16) bd4 A4 c4 ok4 (by omega) (352)) ?_
 rintro t19 S19 ⟨d5, bd5, A5, c5, e5, ok5, rfl, rfl⟩
 refine AWL.nil (kpH (tcB 0 rfl rfl pinV (tcB 1 rfl rfl pinV (tcB 3 rfl rfl pinV (tc0)))) ?_)
 refine AWH.one (i := 9) (by kernel_rfl) rfl ?_
 refine AWL.callAll rfl rfl (B rfl) rfl ce_80 (E rfl rfl) (evsC (E rfl rfl) (evsC (E rfl rfl) (evsC (E rfl rfl) (evsC (E rfl rfl) (evsC (E rfl rfl) evs0))))) (cThen p (1 + 20) 1 bd5 A5 c5 ok5 (by omega) (5) (d4) (d5) 113 #[.pointer (some ⟨b3, 0, none⟩), .pointer (some ⟨b1, 0, none⟩), .pointer (some ⟨b4, 0, none⟩)] [Ent.box b4 3 [zi (0)], Ent.box b3 87 [.v (.pointer (some ⟨p, 0, none⟩))], Ent.box b2 93 (([.string ⟨#[]⟩, .int .i64 0, .int .i64 0, .int .i64 0, .slice none 0 0] : List Value).map T.v), Ent.box b1 3 [zi (1)]] (mForward2 (0)) ce_113 (fun bd9 A9 c9 ok9 => cForward2 p _ bd9 A9 c9 ok9 (by omega) [Ent.box b4 3 [zi (0)], Ent.box b3 87 [.v (.pointer (some ⟨p, 0, none⟩))], Ent.box b2 93 (([.string ⟨#[]⟩, .int .i64 0, .int .i64 0, .int .i64 0, .slice none 0 0] : List Value).map T.v), Ent.box b1 3 [zi (1)]] 1 b3 rfl 3 b1 rfl 0 b4 (0) rfl)) ?_
 rintro t21 S21 ⟨rfl, bd6, A6, c6, e6, ok6, rfl⟩
 refine AWL.nil (kpH (tcB 0 rfl rfl pinV (tcB 1 rfl rfl pinV (tcB 3 rfl rfl pinV (tc0)))) ?_)
 refine AWH.done (by kernel_rfl) ?_
 refine AW.rseqH (HeldCs [(b4, 0, Value.int .i64 (0)), (b3, 0, Value.pointer (some ⟨p, 0, none⟩)), (b1, 0, Value.int .i64 (1))]) rfl (tells_cs (tcB 0 rfl rfl pinV (tcB 1 rfl rfl pinV (tcB 3 rfl rfl pinV (tc0))))) ?_
 refine T2 (i := 0) rfl (heldB 1 rfl ag_87 (E rfl rfl) rfl (fun _ _ => .v _)) ?_
 refine T2 (i := 1) rfl (heldB 1 rfl ag_87 (E rfl rfl) rfl (fun _ _ => .v _)) ?_
 refine T2 (i := 2) rfl (heldB 0 rfl ag_3 (E rfl rfl) rfl (fun _ _ => .v _)) ?_
 refine T2 (i := 3) rfl (heldB 1 rfl ag_87 (E rfl rfl) rfl (fun _ _ => .v _)) ?_
 refine T2 (i := 6) rfl (heldB 1 rfl ag_87 (E rfl rfl) rfl (fun _ _ => .v _)) ?_
 refine T2 (i := 8) rfl (heldAll (freeMk rfl evs0 rfl (evsC (E rfl rfl) (evsC (E rfl rfl) (evsC (E rfl rfl) evs0))) rfl)) ?_
 refine AWH.one (i := 4) (by kernel_rfl) rfl ?_
 refine AWL.callE rfl rfl (B rfl) rfl ce_87 (E rfl rfl) (evsC (E rfl rfl) (evsC (E rfl rfl) evs0)) (F1 := [Ent.box b4 3 [zi (0)], Ent.box b3 87 [.v (.pointer (some ⟨p, 0, none⟩))], Ent.box b2 93 (([.string ⟨#[]⟩, .int .i64 0, .int .i64 0, .int .i64 0, .slice none 0 0] : List Value).map T.v), Ent.box b1 3 [zi (1)]]) (S1 := (BdE p bd6 A6 c6)) rfl (cCell p (1 + 24) bd6 A6 c6 ok6 (by omega) (360)) ?_
 rintro t26 S26 ⟨d7, bd7, A7, c7, e7, ok7, rfl, rfl⟩
 refine AWL.nil (kpH (tcB 0 rfl rfl pinV (tcB 1 rfl rfl pinV (tcB 3 rfl rfl pinV (tc0)))) ?_)
 refine AWH.one (i := 5) (by kernel_rfl) rfl ?_
 refine AWL.callE rfl rfl (B rfl) rfl ce_86 (E rfl rfl) (evsC (E rfl rfl) (evsC (E rfl rfl) (evsC (E rfl rfl) evs0))) (F1 := [Ent.box b4 3 [zi (0)], Ent.box b3 87 [.v (.pointer (some ⟨p, 0, none⟩))], Ent.box b2 93 (([.string ⟨#[]⟩, .int .i64 0, .int .i64 0, .int .i64 0, .slice none 0 0] : List Value).map T.v), Ent.box b1 3 [zi (1)]]) (S1 := (BdE p bd7 A7 c7)) rfl (cSub p (1 + 28) bd7 A7 c7 ok7 (by omega) (0) (d7)) ?_
 rintro t27 S27 ⟨d8, bd8, A8, c8, e8, ok8, rfl, rfl⟩
 refine AWL.nil (kpH (tcB 0 rfl rfl pinV (tcB 1 rfl rfl pinV (tcB 3 rfl rfl pinV (tc0)))) ?_)
 refine AWH.one (i := 7) (by kernel_rfl) rfl ?_
 refine AWL.callE rfl rfl (B rfl) rfl ce_87 (E rfl rfl) (evsC (E rfl rfl) (evsC (E rfl rfl) evs0)) (F1 := [Ent.box b4 3 [zi (0)], Ent.box b3 87 [.v (.pointer (some ⟨p, 0, none⟩))], Ent.box b2 93 (([.string ⟨#[]⟩, .int .i64 0, .int .i64 0, .int .i64 0, .slice none 0 0] : List Value).map T.v), Ent.box b1 3 [zi (1)]]) (S1 := (BdE p bd8 A8 c8)) rfl (cCell p (1 + 30) bd8 A8 c8 ok8 (by omega) (368)) ?_
 rintro t29 S29 ⟨d9, bd9, A9, c9, e9, ok9, rfl, rfl⟩
 refine AWL.nil (kpH (tcB 0 rfl rfl pinV (tcB 1 rfl rfl pinV (tcB 3 rfl rfl pinV (tc0)))) ?_)
 refine AWH.one (i := 9) (by kernel_rfl) rfl ?_
 refine AWL.callAll rfl rfl (B rfl) rfl ce_80 (E rfl rfl) (evsC (E rfl rfl) (evsC (E rfl rfl) (evsC (E rfl rfl) (evsC (E rfl rfl) (evsC (E rfl rfl) evs0))))) (cThen p (1 + 34) 1 bd9 A9 c9 ok9 (by omega) (5) (d8) (d9) 114 #[.pointer (some ⟨b3, 0, none⟩), .pointer (some ⟨b1, 0, none⟩), .pointer (some ⟨b4, 0, none⟩)] [Ent.box b4 3 [zi (0)], Ent.box b3 87 [.v (.pointer (some ⟨p, 0, none⟩))], Ent.box b2 93 (([.string ⟨#[]⟩, .int .i64 0, .int .i64 0, .int .i64 0, .slice none 0 0] : List Value).map T.v), Ent.box b1 3 [zi (1)]] (mForward3 (0)) ce_114 (fun bd9 A9 c9 ok9 => cForward3 p _ bd9 A9 c9 ok9 (by omega) [Ent.box b4 3 [zi (0)], Ent.box b3 87 [.v (.pointer (some ⟨p, 0, none⟩))], Ent.box b2 93 (([.string ⟨#[]⟩, .int .i64 0, .int .i64 0, .int .i64 0, .slice none 0 0] : List Value).map T.v), Ent.box b1 3 [zi (1)]] 1 b3 rfl 3 b1 rfl 0 b4 (0) rfl)) ?_
 rintro t31 S31 ⟨rfl, bd10, A10, c10, e10, ok10, rfl⟩
 refine AWL.nil (kpH (tcB 0 rfl rfl pinV (tcB 1 rfl rfl pinV (tcB 3 rfl rfl pinV (tc0)))) ?_)
 refine AWH.done (by kernel_rfl) ?_
 refine rs (yl ag_87 1 ?_)
 refine yl ag_3 0 ?_
 refine AWL.callE rfl rfl (B rfl) rfl ce_52 (E rfl rfl) (evsC (E rfl rfl) (evsC (E rfl rfl) evs0)) (F1 := [Ent.box b4 3 [zi (0)], Ent.box b3 87 [.v (.pointer (some ⟨p, 0, none⟩))], Ent.box b2 93 (([.string ⟨#[]⟩, .int .i64 0, .int .i64 0, .int .i64 0, .slice none 0 0] : List Value).map T.v), Ent.box b1 3 [zi (1)]]) (S1 := (BdE p bd10 A10 c10)) rfl (cRet p (1 + 38) bd10 A10 c10 ok10 (by omega) (0)) ?_
 rintro t34 S34 ⟨d11, bd11, A11, c11, e11, ok11, rfl, rfl⟩
 refine nl ?_
 refine rs (yl ag_87 1 ?_)
 refine AWL.callE rfl rfl (B rfl) rfl ce_35 (E rfl rfl) (evsC (E rfl rfl) evs0) (F1 := [Ent.box b4 3 [zi (0)], Ent.box b3 87 [.v (.pointer (some ⟨p, 0, none⟩))], Ent.box b2 93 (([.string ⟨#[]⟩, .int .i64 0, .int .i64 0, .int .i64 0, .slice none 0 0] : List Value).map T.v), Ent.box b1 3 [zi (1)]]) (S1 := (BdE p bd11 A11 c11)) rfl (cDone p bd11 A11 c11) ?_
 rintro t36 S36 ⟨rfl, rfl⟩
 refine AWL.storeBox (i := 2) rfl rfl rfl ag_93 rfl (E rfl rfl) (E rfl rfl) rfl rfl nB (nl ?_)
 refine AW.ret (retI (.cellA (i := 2) rfl ag_93 rfl rfl rfl .nil) ?_)
 show _ = T.agg (fnCells (fnB (mForwardFn (bd0 [103, 99, 46, 102, 111, 114, 119, 97, 114, 100] 1)).2))
 rw [show mForwardFn (bd0 [103, 99, 46, 102, 111, 114, 119, 97, 114, 100] 1) = ((), bd11) from (bq e1).trans ((bq e2).trans ((bq e3).trans ((bq e4).trans ((bq e5).trans ((bq e6).trans ((bq e7).trans ((bq e8).trans ((bq e9).trans ((bq e10).trans (e11))))))))))]
 rfl

theorem cForwardFn : ACalls Tryz.prog 62 [zi 1] [] (fun t S => t = .agg (fnCells fForwardFn) ∧ S = []) := (cForwardFn_).less fun t S' h => ⟨[], List.nil_sublist _, h, rfl⟩
end Go.Proofs.YtpgbpdnmjeoeoaaGreat.B

namespace Go.Proofs.YtpgbpdnmjeoeoaaGreat.B
open Go Go.RowKit

def mStart1a (x0 x1 x2 x3 v1 v2 : Int) : BM Unit :=
 bnd (mSetCell (x0) (v1)) fun _ =>
 bnd (mSetCell (x1) (v1)) fun _ =>
 bnd (mOpC (5) (v2) (x3)) fun d3 =>
 bnd (mInto (v1) (3) (v1) (d3)) fun _ =>
 mSetCell (x2) (v1)
set_option maxHeartbeats 4000000 in
theorem cStart1a (p N : Nat) (bd : Bd) (A : Option Addr) (c : Nat) (ok : BdOk N bd) (hN : N ≤ 90000) (F : St) (i0 g0 : Nat) (h0 : F[i0]? = some (Ent.box g0 87 [.v (.pointer (some ⟨p, 0, none⟩))])) (i1 g1 : Nat) (v1 : Int) (h1 : F[i1]? = some (Ent.box g1 3 [zi v1])) (i2 g2 : Nat) (v2 : Int) (h2 : F[i2]? = some (Ent.box g2 3 [zi v2])) (x0 x1 x2 x3 : Int) (hx0 : 0 ≤ x0) (hx1 : 0 ≤ x1) (hx2 : 0 ≤ x2) :
    ACalls Tryz.prog 75 [zi x0, zi x1, zi x2, zi x3, .v (.pointer (some ⟨g0, 0, none⟩)), .v (.pointer (some ⟨g1, 0, none⟩)), .v (.pointer (some ⟨g2, 0, none⟩))] (F ++ BdE p bd A c) (BRF (mStart1a x0 x1 x2 x3 v1 v2) bd p (N + 14) F) := by
 refine ACalls.intro Tryz.func75 rfl Tryz.ntmps75 nB rfl fun X w0 => ?_
 refine AW.seq ?_
 refine rs (ym ?_)
 refine Y1 (Yv.geq rfl eV eV) (nl ?_)
 refine AW.cond rfl (fun h0t => ?_) (fun h0f => ?_)
 ·try replace h0t := odt h0t
  refine AW.region ?_
  refine Y1 (Yv.loadBox rfl ag_87 (i := i0) (appS (l := F) h0) eV rfl) ?_
  refine ym ?_
  refine Y1 (Yv.loadBox rfl ag_3 (i := i1) (appS (l := F) h1) eV rfl) ?_
  refine AWL.callE rfl rfl (B rfl) rfl ce_76 (E rfl rfl) (evsC (E rfl rfl) (evsC (E rfl rfl) (evsC (E rfl rfl) evs0))) (F1 := F) (S1 := (BdE p bd A c)) rfl (cSetCell p N bd A c ok (by omega) (x0) (v1)) ?_
  rintro t16 S16 ⟨d1, bd1, A1, c1, e1, ok1, rfl, rfl⟩
  refine nl ?_
  refine AW.seq ?_
  refine rs (ym ?_)
  refine Y1 (Yv.geq rfl eV eV) (nl ?_)
  refine AW.cond rfl (fun h1t => ?_) (fun h1f => ?_)
  ·try replace h1t := odt h1t
   refine AW.region ?_
   refine Y1 (Yv.loadBox rfl ag_87 (i := i0) (appS (l := F) h0) eV rfl) ?_
   refine ym ?_
   refine Y1 (Yv.loadBox rfl ag_3 (i := i1) (appS (l := F) h1) eV rfl) ?_
   refine AWL.callE rfl rfl (B rfl) rfl ce_76 (E rfl rfl) (evsC (E rfl rfl) (evsC (E rfl rfl) (evsC (E rfl rfl) evs0))) (F1 := F) (S1 := (BdE p bd1 A1 c1)) rfl (cSetCell p (N + 3) bd1 A1 c1 ok1 (by omega) (x1) (v1)) ?_
   rintro t22 S22 ⟨d2, bd2, A2, c2, e2, ok2, rfl, rfl⟩
   refine nl ?_
   refine AW.rseqH (HeldCs [(g0, 0, Value.pointer (some ⟨p, 0, none⟩)), (g1, 0, Value.int .i64 (v1)), (g2, 0, Value.int .i64 (v2))]) rfl (tells_cs (tcB i0 (appS (l := F) h0) rfl pinV (tcB i1 (appS (l := F) h1) rfl pinV (tcB i2 (appS (l := F) h2) rfl pinV (tc0))))) ?_
   refine T2 (i := 0) rfl (heldB 0 rfl ag_87 (E rfl rfl) rfl (fun _ _ => .v _)) ?_
   refine T2 (i := 1) rfl (heldB 1 rfl ag_3 (E rfl rfl) rfl (fun _ _ => .v _)) ?_
   refine T2 (i := 2) rfl (heldB 1 rfl ag_3 (E rfl rfl) rfl (fun _ _ => .v _)) ?_
   refine T2 (i := 3) rfl (heldB 0 rfl ag_87 (E rfl rfl) rfl (fun _ _ => .v _)) ?_
   refine T2 (i := 4) rfl (heldB 2 rfl ag_3 (E rfl rfl) rfl (fun _ _ => .v _)) ?_
   refine AWH.one (i := 5) (by kernel_rfl) rfl ?_
   refine ym ?_
   refine AWL.nil (kpH (tcB i0 (appS (l := F) h0) rfl pinV (tcB i1 (appS (l := F) h1) rfl pinV (tcB i2 (appS (l := F) h2) rfl pinV (tc0)))) ?_)
   refine AWH.one (i := 6) (by kernel_rfl) rfl ?_
   refine AWL.callE rfl rfl (B rfl) rfl ce_78 (E rfl rfl) (evsC (E rfl rfl) (evsC (E rfl rfl) (evsC (E rfl rfl) (evsC (E rfl rfl) evs0)))) (F1 := F) (S1 := (BdE p bd2 A2 c2)) rfl (cOpC p (N + 6) bd2 A2 c2 ok2 (by omega) (5) (v2) (x3)) ?_
   rintro t29 S29 ⟨d3, bd3, A3, c3, e3, ok3, rfl, rfl⟩
   refine AWL.nil (kpH (tcB i0 (appS (l := F) h0) rfl pinV (tcB i1 (appS (l := F) h1) rfl pinV (tcB i2 (appS (l := F) h2) rfl pinV (tc0)))) ?_)
   refine AWH.one (i := 7) (by kernel_rfl) rfl ?_
   refine AWL.callE rfl rfl (B rfl) rfl ce_77 (E rfl rfl) (evsC (E rfl rfl) (evsC (E rfl rfl) (evsC (E rfl rfl) (evsC (E rfl rfl) (evsC (E rfl rfl) evs0))))) (F1 := F) (S1 := (BdE p bd3 A3 c3)) rfl (cInto p (N + 10) bd3 A3 c3 ok3 (by omega) (v1) (3) (v1) (d3)) ?_
   rintro t30 S30 ⟨d4, bd4, A4, c4, e4, ok4, rfl, rfl⟩
   refine AWL.nil (kpH (tcB i0 (appS (l := F) h0) rfl pinV (tcB i1 (appS (l := F) h1) rfl pinV (tcB i2 (appS (l := F) h2) rfl pinV (tc0)))) ?_)
   refine AWH.done (by kernel_rfl) ?_
   refine rs (ym ?_)
   refine Y1 (Yv.geq rfl eV eV) (nl ?_)
   refine AW.cond rfl (fun h2t => ?_) (fun h2f => ?_)
   ·try replace h2t := odt h2t
    refine AW.region ?_
    refine Y1 (Yv.loadBox rfl ag_87 (i := i0) (appS (l := F) h0) eV rfl) ?_
    refine ym ?_
    refine Y1 (Yv.loadBox rfl ag_3 (i := i1) (appS (l := F) h1) eV rfl) ?_
    refine AWL.callE rfl rfl (B rfl) rfl ce_76 (E rfl rfl) (evsC (E rfl rfl) (evsC (E rfl rfl) (evsC (E rfl rfl) evs0))) (F1 := F) (S1 := (BdE p bd4 A4 c4)) rfl (cSetCell p (N + 11) bd4 A4 c4 ok4 (by omega) (x2) (v1)) ?_
    rintro t36 S36 ⟨d5, bd5, A5, c5, e5, ok5, rfl, rfl⟩
    refine nl ?_
    refine retN .nil ?_
    exact ⟨rfl, _, _, _, (bq e1).trans ((bq e2).trans ((bq e3).trans ((bq e4).trans (e5)))), ok5, rfl⟩
   try replace h2f := odf h2f
   exfalso; omega
  try replace h1f := odf h1f
  exfalso; omega
 try replace h0f := odf h0f
 exfalso; omega

def mStart1b (x0 x1 x2 x3 v1 v2 : Int) : BM Unit :=
 bnd (mSetCell (x0) (v1)) fun _ =>
 bnd (mOpC (5) (v2) (x3)) fun d2 =>
 mInto (v1) (3) (v1) (d2)
set_option maxHeartbeats 4000000 in
theorem cStart1b (p N : Nat) (bd : Bd) (A : Option Addr) (c : Nat) (ok : BdOk N bd) (hN : N ≤ 90000) (F : St) (i0 g0 : Nat) (h0 : F[i0]? = some (Ent.box g0 87 [.v (.pointer (some ⟨p, 0, none⟩))])) (i1 g1 : Nat) (v1 : Int) (h1 : F[i1]? = some (Ent.box g1 3 [zi v1])) (i2 g2 : Nat) (v2 : Int) (h2 : F[i2]? = some (Ent.box g2 3 [zi v2])) (x0 x1 x2 x3 : Int) (hx0 : 0 ≤ x0) (hx1 : x1 < 0) (hx2 : x2 < 0) :
    ACalls Tryz.prog 75 [zi x0, zi x1, zi x2, zi x3, .v (.pointer (some ⟨g0, 0, none⟩)), .v (.pointer (some ⟨g1, 0, none⟩)), .v (.pointer (some ⟨g2, 0, none⟩))] (F ++ BdE p bd A c) (BRF (mStart1b x0 x1 x2 x3 v1 v2) bd p (N + 8) F) := by
 refine ACalls.intro Tryz.func75 rfl Tryz.ntmps75 nB rfl fun X w0 => ?_
 refine AW.seq ?_
 refine rs (ym ?_)
 refine Y1 (Yv.geq rfl eV eV) (nl ?_)
 refine AW.cond rfl (fun h0t => ?_) (fun h0f => ?_)
 ·try replace h0t := odt h0t
  refine AW.region ?_
  refine Y1 (Yv.loadBox rfl ag_87 (i := i0) (appS (l := F) h0) eV rfl) ?_
  refine ym ?_
  refine Y1 (Yv.loadBox rfl ag_3 (i := i1) (appS (l := F) h1) eV rfl) ?_
  refine AWL.callE rfl rfl (B rfl) rfl ce_76 (E rfl rfl) (evsC (E rfl rfl) (evsC (E rfl rfl) (evsC (E rfl rfl) evs0))) (F1 := F) (S1 := (BdE p bd A c)) rfl (cSetCell p N bd A c ok (by omega) (x0) (v1)) ?_
  rintro t16 S16 ⟨d1, bd1, A1, c1, e1, ok1, rfl, rfl⟩
  refine nl ?_
  refine AW.seq ?_
  refine rs (ym ?_)
  refine Y1 (Yv.geq rfl eV eV) (nl ?_)
  refine AW.cond rfl (fun h1t => ?_) (fun h1f => ?_)
  ·try replace h1t := odt h1t
   exfalso; omega
  try replace h1f := odf h1f
  refine AW.skip ?_
  refine AW.rseqH (HeldCs [(g0, 0, Value.pointer (some ⟨p, 0, none⟩)), (g1, 0, Value.int .i64 (v1)), (g2, 0, Value.int .i64 (v2))]) rfl (tells_cs (tcB i0 (appS (l := F) h0) rfl pinV (tcB i1 (appS (l := F) h1) rfl pinV (tcB i2 (appS (l := F) h2) rfl pinV (tc0))))) ?_
  refine T2 (i := 0) rfl (heldB 0 rfl ag_87 (E rfl rfl) rfl (fun _ _ => .v _)) ?_
  refine T2 (i := 1) rfl (heldB 1 rfl ag_3 (E rfl rfl) rfl (fun _ _ => .v _)) ?_
  refine T2 (i := 2) rfl (heldB 1 rfl ag_3 (E rfl rfl) rfl (fun _ _ => .v _)) ?_
  refine T2 (i := 3) rfl (heldB 0 rfl ag_87 (E rfl rfl) rfl (fun _ _ => .v _)) ?_
  refine T2 (i := 4) rfl (heldB 2 rfl ag_3 (E rfl rfl) rfl (fun _ _ => .v _)) ?_
  refine AWH.one (i := 5) (by kernel_rfl) rfl ?_
  refine ym ?_
  refine AWL.nil (kpH (tcB i0 (appS (l := F) h0) rfl pinV (tcB i1 (appS (l := F) h1) rfl pinV (tcB i2 (appS (l := F) h2) rfl pinV (tc0)))) ?_)
  refine AWH.one (i := 6) (by kernel_rfl) rfl ?_
  refine AWL.callE rfl rfl (B rfl) rfl ce_78 (E rfl rfl) (evsC (E rfl rfl) (evsC (E rfl rfl) (evsC (E rfl rfl) (evsC (E rfl rfl) evs0)))) (F1 := F) (S1 := (BdE p bd1 A1 c1)) rfl (cOpC p (N + 3) bd1 A1 c1 ok1 (by omega) (5) (v2) (x3)) ?_
  rintro t29 S29 ⟨d2, bd2, A2, c2, e2, ok2, rfl, rfl⟩
  refine AWL.nil (kpH (tcB i0 (appS (l := F) h0) rfl pinV (tcB i1 (appS (l := F) h1) rfl pinV (tcB i2 (appS (l := F) h2) rfl pinV (tc0)))) ?_)
  refine AWH.one (i := 7) (by kernel_rfl) rfl ?_
  refine AWL.callE rfl rfl (B rfl) rfl ce_77 (E rfl rfl) (evsC (E rfl rfl) (evsC (E rfl rfl) (evsC (E rfl rfl) (evsC (E rfl rfl) (evsC (E rfl rfl) evs0))))) (F1 := F) (S1 := (BdE p bd2 A2 c2)) rfl (cInto p (N + 7) bd2 A2 c2 ok2 (by omega) (v1) (3) (v1) (d2)) ?_
  rintro t30 S30 ⟨d3, bd3, A3, c3, e3, ok3, rfl, rfl⟩
  refine AWL.nil (kpH (tcB i0 (appS (l := F) h0) rfl pinV (tcB i1 (appS (l := F) h1) rfl pinV (tcB i2 (appS (l := F) h2) rfl pinV (tc0)))) ?_)
  refine AWH.done (by kernel_rfl) ?_
  refine rs (ym ?_)
  refine Y1 (Yv.geq rfl eV eV) (nl ?_)
  refine AW.cond rfl (fun h2t => ?_) (fun h2f => ?_)
  ·try replace h2t := odt h2t
   exfalso; omega
  try replace h2f := odf h2f
  refine AW.skip ?_
  refine retN .nil ?_
  exact ⟨rfl, _, _, _, (bq e1).trans ((bq e2).trans (e3)), ok3, rfl⟩
 try replace h0f := odf h0f
 exfalso; omega

def mStart1c (x0 x1 x2 x3 v1 v2 : Int) : BM Unit :=
 bnd (mSetCell (x0) (v1)) fun _ =>
 bnd (mSetCell (x1) (v1)) fun _ =>
 bnd (mOpC (5) (v2) (x3)) fun d3 =>
 mInto (v1) (3) (v1) (d3)
set_option maxHeartbeats 4000000 in
theorem cStart1c (p N : Nat) (bd : Bd) (A : Option Addr) (c : Nat) (ok : BdOk N bd) (hN : N ≤ 90000) (F : St) (i0 g0 : Nat) (h0 : F[i0]? = some (Ent.box g0 87 [.v (.pointer (some ⟨p, 0, none⟩))])) (i1 g1 : Nat) (v1 : Int) (h1 : F[i1]? = some (Ent.box g1 3 [zi v1])) (i2 g2 : Nat) (v2 : Int) (h2 : F[i2]? = some (Ent.box g2 3 [zi v2])) (x0 x1 x2 x3 : Int) (hx0 : 0 ≤ x0) (hx1 : 0 ≤ x1) (hx2 : x2 < 0) :
    ACalls Tryz.prog 75 [zi x0, zi x1, zi x2, zi x3, .v (.pointer (some ⟨g0, 0, none⟩)), .v (.pointer (some ⟨g1, 0, none⟩)), .v (.pointer (some ⟨g2, 0, none⟩))] (F ++ BdE p bd A c) (BRF (mStart1c x0 x1 x2 x3 v1 v2) bd p (N + 11) F) := by
 refine ACalls.intro Tryz.func75 rfl Tryz.ntmps75 nB rfl fun X w0 => ?_
 refine AW.seq ?_
 refine rs (ym ?_)
 refine Y1 (Yv.geq rfl eV eV) (nl ?_)
 refine AW.cond rfl (fun h0t => ?_) (fun h0f => ?_)
 ·try replace h0t := odt h0t
  refine AW.region ?_
  refine Y1 (Yv.loadBox rfl ag_87 (i := i0) (appS (l := F) h0) eV rfl) ?_
  refine ym ?_
  refine Y1 (Yv.loadBox rfl ag_3 (i := i1) (appS (l := F) h1) eV rfl) ?_
  refine AWL.callE rfl rfl (B rfl) rfl ce_76 (E rfl rfl) (evsC (E rfl rfl) (evsC (E rfl rfl) (evsC (E rfl rfl) evs0))) (F1 := F) (S1 := (BdE p bd A c)) rfl (cSetCell p N bd A c ok (by omega) (x0) (v1)) ?_
  rintro t16 S16 ⟨d1, bd1, A1, c1, e1, ok1, rfl, rfl⟩
  refine nl ?_
  refine AW.seq ?_
  refine rs (ym ?_)
  refine Y1 (Yv.geq rfl eV eV) (nl ?_)
  refine AW.cond rfl (fun h1t => ?_) (fun h1f => ?_)
  ·try replace h1t := odt h1t
   refine AW.region ?_
   refine Y1 (Yv.loadBox rfl ag_87 (i := i0) (appS (l := F) h0) eV rfl) ?_
   refine ym ?_
   refine Y1 (Yv.loadBox rfl ag_3 (i := i1) (appS (l := F) h1) eV rfl) ?_
   refine AWL.callE rfl rfl (B rfl) rfl ce_76 (E rfl rfl) (evsC (E rfl rfl) (evsC (E rfl rfl) (evsC (E rfl rfl) evs0))) (F1 := F) (S1 := (BdE p bd1 A1 c1)) rfl (cSetCell p (N + 3) bd1 A1 c1 ok1 (by omega) (x1) (v1)) ?_
   rintro t22 S22 ⟨d2, bd2, A2, c2, e2, ok2, rfl, rfl⟩
   refine nl ?_
   refine AW.rseqH (HeldCs [(g0, 0, Value.pointer (some ⟨p, 0, none⟩)), (g1, 0, Value.int .i64 (v1)), (g2, 0, Value.int .i64 (v2))]) rfl (tells_cs (tcB i0 (appS (l := F) h0) rfl pinV (tcB i1 (appS (l := F) h1) rfl pinV (tcB i2 (appS (l := F) h2) rfl pinV (tc0))))) ?_
   refine T2 (i := 0) rfl (heldB 0 rfl ag_87 (E rfl rfl) rfl (fun _ _ => .v _)) ?_
   refine T2 (i := 1) rfl (heldB 1 rfl ag_3 (E rfl rfl) rfl (fun _ _ => .v _)) ?_
   refine T2 (i := 2) rfl (heldB 1 rfl ag_3 (E rfl rfl) rfl (fun _ _ => .v _)) ?_
   refine T2 (i := 3) rfl (heldB 0 rfl ag_87 (E rfl rfl) rfl (fun _ _ => .v _)) ?_
   refine T2 (i := 4) rfl (heldB 2 rfl ag_3 (E rfl rfl) rfl (fun _ _ => .v _)) ?_
   refine AWH.one (i := 5) (by kernel_rfl) rfl ?_
   refine ym ?_
   refine AWL.nil (kpH (tcB i0 (appS (l := F) h0) rfl pinV (tcB i1 (appS (l := F) h1) rfl pinV (tcB i2 (appS (l := F) h2) rfl pinV (tc0)))) ?_)
   refine AWH.one (i := 6) (by kernel_rfl) rfl ?_
   refine AWL.callE rfl rfl (B rfl) rfl ce_78 (E rfl rfl) (evsC (E rfl rfl) (evsC (E rfl rfl) (evsC (E rfl rfl) (evsC (E rfl rfl) evs0)))) (F1 := F) (S1 := (BdE p bd2 A2 c2)) rfl (cOpC p (N + 6) bd2 A2 c2 ok2 (by omega) (5) (v2) (x3)) ?_
   rintro t29 S29 ⟨d3, bd3, A3, c3, e3, ok3, rfl, rfl⟩
   refine AWL.nil (kpH (tcB i0 (appS (l := F) h0) rfl pinV (tcB i1 (appS (l := F) h1) rfl pinV (tcB i2 (appS (l := F) h2) rfl pinV (tc0)))) ?_)
   refine AWH.one (i := 7) (by kernel_rfl) rfl ?_
   refine AWL.callE rfl rfl (B rfl) rfl ce_77 (E rfl rfl) (evsC (E rfl rfl) (evsC (E rfl rfl) (evsC (E rfl rfl) (evsC (E rfl rfl) (evsC (E rfl rfl) evs0))))) (F1 := F) (S1 := (BdE p bd3 A3 c3)) rfl (cInto p (N + 10) bd3 A3 c3 ok3 (by omega) (v1) (3) (v1) (d3)) ?_
   rintro t30 S30 ⟨d4, bd4, A4, c4, e4, ok4, rfl, rfl⟩
   refine AWL.nil (kpH (tcB i0 (appS (l := F) h0) rfl pinV (tcB i1 (appS (l := F) h1) rfl pinV (tcB i2 (appS (l := F) h2) rfl pinV (tc0)))) ?_)
   refine AWH.done (by kernel_rfl) ?_
   refine rs (ym ?_)
   refine Y1 (Yv.geq rfl eV eV) (nl ?_)
   refine AW.cond rfl (fun h2t => ?_) (fun h2f => ?_)
   ·try replace h2t := odt h2t
    exfalso; omega
   try replace h2f := odf h2f
   refine AW.skip ?_
   refine retN .nil ?_
   exact ⟨rfl, _, _, _, (bq e1).trans ((bq e2).trans ((bq e3).trans (e4))), ok4, rfl⟩
  try replace h1f := odf h1f
  exfalso; omega
 try replace h0f := odf h0f
 exfalso; omega

def mStartFn : BM Unit :=
 bnd (regM) fun d1 =>
 bnd (putM (insI (29) (d1) (0) (0) (0) (0) (0) (0) (0) (0))) fun _ =>
 bnd (mShr (d1) (7)) fun dm0 =>
 bnd (mShl (dm0) (3)) fun dm1 =>
 bnd (mC (1073741824)) fun d3 =>
 bnd (mStart1a (256) (264) (272) (2) (d3) (dm1)) fun _ =>
 bnd (mStart1a (280) (288) (296) (4) (d3) (dm1)) fun _ =>
 bnd (mStart1b (304) ((-1)) ((-1)) (4) (d3) (dm1)) fun _ =>
 bnd (mStart1c (312) (320) ((-1)) (2) (d3) (dm1)) fun _ =>
 bnd (mIncr (d3) (64)) fun _ =>
 bnd (mOpC (5) (dm1) (4)) fun d9 =>
 bnd (mSetCell (376) (d9)) fun _ =>
 bnd (mSetCell (8) (d3)) fun _ =>
 bnd (mSetCell (0) (d3)) fun _ =>
 bnd (mShl (dm1) (1)) fun d13 =>
 bnd (mC (16777216)) fun d14 =>
 bnd (mThen (3) (d14) (d13) (mStart2 (d13))) fun _ =>
 bnd (mAdd (d3) (d13)) fun d16 =>
 bnd (mSetCell (16) (d16)) fun _ =>
 bnd (mC (1)) fun d18 =>
 bnd (mSetCell (24) (d18)) fun _ =>
 bnd (mC (16777227)) fun d20 =>
 bnd (stepN (fun k => bnd (mSetCell ((32 + (16 * (k : Int)))) (d20)) fun _ =>
 mSetCell (((32 + (16 * (k : Int))) + 8)) (d18)) 8) fun _ =>
 mRet (d18)
def fStartFn : Fn := fnB (mStartFn (bd0 [103, 99, 46, 115, 116, 97, 114, 116] 0)).2
set_option maxHeartbeats 16000000 in
theorem cStartFn_  :
    ACalls Tryz.prog 54 [zi 1] [] (fun t S => t = .agg (fnCells (fStartFn))) := by
 refine ACalls.intro Tryz.func54 rfl Tryz.ntmps54 nB rfl fun X w0 => ?_
 refine rs ?_
 refine AWL.allocOp rfl rfl (B rfl) rfl zc_93 (fun b2 => ?_)
 refine AWL.perm (List.perm_append_singleton _ _).symm (nl ?_)
 refine rs ?_
 refine AWL.callE rfl rfl (B rfl) rfl ce_32 (E rfl rfl) (evsC (E rfl rfl) (evsC (E rfl rfl) evs0)) (F1 := [Ent.box b2 93 (([.string ⟨#[]⟩, .int .i64 0, .int .i64 0, .int .i64 0, .slice none 0 0] : List Value).map T.v)]) (S1 := []) rfl (cNew [103, 99, 46, 115, 116, 97, 114, 116] 0) ?_
 rintro t12 S12 ⟨p, rfl, rfl⟩
 have ok0 : BdOk 1 (bd0 [103, 99, 46, 115, 116, 97, 114, 116] 0) := ⟨by decide, by decide, by decide, by decide, by decide, by decide, by decide⟩
 refine AWL.allocOp rfl rfl (B rfl) rfl zc_87 (fun b3 => ?_)
 refine AWL.perm (List.perm_append_singleton _ _).symm ?_
 refine AWL.storeBox (i := 0) rfl rfl rfl ag_87 rfl (E rfl rfl) (E rfl rfl) rfl rfl nB (nl ?_)
 refine rs (yl ag_87 0 ?_)
 refine AWL.callE rfl rfl (B rfl) rfl ce_50 (E rfl rfl) (evsC (E rfl rfl) evs0) (F1 := [Ent.box b3 87 [.v (.pointer (some ⟨p, 0, none⟩))], Ent.box b2 93 (([.string ⟨#[]⟩, .int .i64 0, .int .i64 0, .int .i64 0, .slice none 0 0] : List Value).map T.v)]) (S1 := (BdE p (bd0 [103, 99, 46, 115, 116, 97, 114, 116] 0) none 0)) rfl (cReg p 1 (bd0 [103, 99, 46, 115, 116, 97, 114, 116] 0) none 0 ok0 (by omega) ) ?_
 rintro t14 S14 ⟨d1, bd1, A1, c1, e1, ok1, rfl, rfl⟩
 refine ya ?_
 refine rs (yl ag_87 0 ?_)
 refine ym ?_
 refine Y1 (Yv.buildS rfl sh_98 (evpC eV (evpC eV evp0)) (fun _ => rfl)) ?_
 refine AWL.callE rfl rfl (B rfl) rfl ce_51 (E rfl rfl) (evsC (E rfl rfl) (evsC (E rfl rfl) evs0)) (F1 := [Ent.box b3 87 [.v (.pointer (some ⟨p, 0, none⟩))], Ent.box b2 93 (([.string ⟨#[]⟩, .int .i64 0, .int .i64 0, .int .i64 0, .slice none 0 0] : List Value).map T.v)]) (S1 := (BdE p bd1 A1 c1)) rfl ((cPut p (1 + 1) bd1 A1 c1 ok1 (by omega) (insI (29) (d1) (0) (0) (0) (0) (0) (0) (0) (0))).le (.cons .refl (.cons nil_le .refl))) ?_
 rintro t18 S18 ⟨d2, bd2, A2, c2, e2, ok2, rfl, rfl⟩
 refine nl ?_
 refine AW.mid (α := Int × Bd × Int × Bd × Option Addr × Nat × Nat) (fun ⟨dm0, bm0, dm1, bm1, Am, cm, b5⟩ => [(0, true, zi (1)), (2, true, pv b2), (3, true, pv b3), (4, true, zi (d1)), (5, true, pv b5)]) (fun ⟨dm0, bm0, dm1, bm1, Am, cm, b5⟩ => [Ent.box b5 3 [zi (dm1)], Ent.box b3 87 [.v (.pointer (some ⟨p, 0, none⟩))], Ent.box b2 93 (([.string ⟨#[]⟩, .int .i64 0, .int .i64 0, .int .i64 0, .slice none 0 0] : List Value).map T.v)] ++ BdE p bm1 Am cm) (fun ⟨dm0, bm0, dm1, bm1, Am, cm, b5⟩ => (mShr (d1) (7)) bd2 = (dm0, bm0) ∧ (mShl (dm0) (3)) bm0 = (dm1, bm1) ∧ BdOk (1 + 10) bm1) ?_ ?_
 ·refine AW.regionH (HeldCs [(b3, 0, Value.pointer (some ⟨p, 0, none⟩))]) rfl (tells_cs (tcB 0 rfl rfl pinV (tc0))) ?_
  refine T2 (i := 0) rfl (heldB 0 rfl ag_87 (E rfl rfl) rfl (fun _ _ => .v _)) ?_
  refine T2 (i := 1) rfl (heldB 0 rfl ag_87 (E rfl rfl) rfl (fun _ _ => .v _)) ?_
  refine T2 (i := 2) rfl (heldAll (freeMove rfl (E rfl rfl))) ?_
  refine AWH.two (i := 3) (j := 5) (by kernel_rfl) rfl rfl ?_ ?_
  ·refine AWL.callE rfl rfl (B rfl) rfl ce_74 (E rfl rfl) (evsC (E rfl rfl) (evsC (E rfl rfl) (evsC (E rfl rfl) evs0))) (F1 := [Ent.box b3 87 [.v (.pointer (some ⟨p, 0, none⟩))], Ent.box b2 93 (([.string ⟨#[]⟩, .int .i64 0, .int .i64 0, .int .i64 0, .slice none 0 0] : List Value).map T.v)]) (S1 := (BdE p bd2 A2 c2)) rfl (cShr p (1 + 2) bd2 A2 c2 ok2 (by omega) (d1) (7)) ?_
   rintro t22 S22 ⟨d3, bd3, A3, c3, e3, ok3, rfl, rfl⟩
   refine AWL.nil (kpH (tcB 0 rfl rfl pinV (tc0)) ?_)
   refine AWH.two (i := 4) (j := 5) (by kernel_rfl) rfl rfl ?_ ?_
   ·refine AWL.callE rfl rfl (B rfl) rfl ce_73 (E rfl rfl) (evsC (E rfl rfl) (evsC (E rfl rfl) (evsC (E rfl rfl) evs0))) (F1 := [Ent.box b3 87 [.v (.pointer (some ⟨p, 0, none⟩))], Ent.box b2 93 (([.string ⟨#[]⟩, .int .i64 0, .int .i64 0, .int .i64 0, .slice none 0 0] : List Value).map T.v)]) (S1 := (BdE p bd3 A3 c3)) rfl (cShl p (1 + 6) bd3 A3 c3 ok3 (by omega) (d3) (3)) ?_
    rintro t23 S23 ⟨d4, bd4, A4, c4, e4, ok4, rfl, rfl⟩
    refine AWL.nil (kpH (tcB 0 rfl rfl pinV (tc0)) ?_)
    refine AWH.one (i := 5) (by kernel_rfl) rfl ?_
    refine AWL.allocOp rfl rfl (B rfl) rfl zc_3 (fun b5 => ?_)
    refine AWL.perm (List.perm_append_singleton _ _).symm ?_
    refine AWL.nil (kpH (tcB 1 rfl rfl pinV (tc0)) ?_)
    refine AWH.one (i := 6) (by kernel_rfl) rfl ?_
    refine AWL.storeBox (i := 0) rfl rfl rfl ag_3 rfl (E rfl rfl) (E rfl rfl) rfl rfl nB ?_
    refine AWL.nil (kpH (tcB 1 rfl rfl pinV (tc0)) ?_)
    refine AWH.done (by kernel_rfl) ?_
    exact ⟨(d3, bd3, d4, bd4, A4, c4, b5), ⟨e3, e4, ok4⟩, (su (su (su (su (su sn))))), rfl⟩
   refine AWL.allocOp rfl rfl (B rfl) rfl zc_3 (fun b5 => ?_)
   refine AWL.perm (List.perm_append_singleton _ _).symm ?_
   refine AWL.nil (kpH (tcB 1 rfl rfl pinV (tc0)) ?_)
   refine AWH.one (i := 4) (by kernel_rfl) rfl ?_
   refine AWL.callE rfl rfl (B rfl) rfl ce_73 (E rfl rfl) (evsC (E rfl rfl) (evsC (E rfl rfl) (evsC (E rfl rfl) evs0))) (F1 := [Ent.box b5 3 (([.int .i64 0] : List Value).map T.v), Ent.box b3 87 [.v (.pointer (some ⟨p, 0, none⟩))], Ent.box b2 93 (([.string ⟨#[]⟩, .int .i64 0, .int .i64 0, .int .i64 0, .slice none 0 0] : List Value).map T.v)]) (S1 := (BdE p bd3 A3 c3)) rfl (cShl p (1 + 6) bd3 A3 c3 ok3 (by omega) (d3) (3)) ?_
   rintro t23 S23 ⟨d4, bd4, A4, c4, e4, ok4, rfl, rfl⟩
   refine AWL.nil (kpH (tcB 1 rfl rfl pinV (tc0)) ?_)
   refine AWH.one (i := 6) (by kernel_rfl) rfl ?_
   refine AWL.storeBox (i := 0) rfl rfl rfl ag_3 rfl (E rfl rfl) (E rfl rfl) rfl rfl nB ?_
   refine AWL.nil (kpH (tcB 1 rfl rfl pinV (tc0)) ?_)
   refine AWH.done (by kernel_rfl) ?_
   exact ⟨(d3, bd3, d4, bd4, A4, c4, b5), ⟨e3, e4, ok4⟩, (su (su (su (su (su sn))))), rfl⟩
  refine AWL.allocOp rfl rfl (B rfl) rfl zc_3 (fun b5 => ?_)
  refine AWL.perm (List.perm_append_singleton _ _).symm ?_
  refine AWL.nil (kpH (tcB 1 rfl rfl pinV (tc0)) ?_)
  refine AWH.one (i := 3) (by kernel_rfl) rfl ?_
  refine AWL.callE rfl rfl (B rfl) rfl ce_74 (E rfl rfl) (evsC (E rfl rfl) (evsC (E rfl rfl) (evsC (E rfl rfl) evs0))) (F1 := [Ent.box b5 3 (([.int .i64 0] : List Value).map T.v), Ent.box b3 87 [.v (.pointer (some ⟨p, 0, none⟩))], Ent.box b2 93 (([.string ⟨#[]⟩, .int .i64 0, .int .i64 0, .int .i64 0, .slice none 0 0] : List Value).map T.v)]) (S1 := (BdE p bd2 A2 c2)) rfl (cShr p (1 + 2) bd2 A2 c2 ok2 (by omega) (d1) (7)) ?_
  rintro t22 S22 ⟨d3, bd3, A3, c3, e3, ok3, rfl, rfl⟩
  refine AWL.nil (kpH (tcB 1 rfl rfl pinV (tc0)) ?_)
  refine AWH.one (i := 4) (by kernel_rfl) rfl ?_
  refine AWL.callE rfl rfl (B rfl) rfl ce_73 (E rfl rfl) (evsC (E rfl rfl) (evsC (E rfl rfl) (evsC (E rfl rfl) evs0))) (F1 := [Ent.box b5 3 (([.int .i64 0] : List Value).map T.v), Ent.box b3 87 [.v (.pointer (some ⟨p, 0, none⟩))], Ent.box b2 93 (([.string ⟨#[]⟩, .int .i64 0, .int .i64 0, .int .i64 0, .slice none 0 0] : List Value).map T.v)]) (S1 := (BdE p bd3 A3 c3)) rfl (cShl p (1 + 6) bd3 A3 c3 ok3 (by omega) (d3) (3)) ?_
  rintro t23 S23 ⟨d4, bd4, A4, c4, e4, ok4, rfl, rfl⟩
  refine AWL.nil (kpH (tcB 1 rfl rfl pinV (tc0)) ?_)
  refine AWH.one (i := 6) (by kernel_rfl) rfl ?_
  refine AWL.storeBox (i := 0) rfl rfl rfl ag_3 rfl (E rfl rfl) (E rfl rfl) rfl rfl nB ?_
  refine AWL.nil (kpH (tcB 1 rfl rfl pinV (tc0)) ?_)
  refine AWH.done (by kernel_rfl) ?_
  exact ⟨(d3, bd3, d4, bd4, A4, c4, b5), ⟨e3, e4, ok4⟩, (su (su (su (su (su sn))))), rfl⟩
 rintro ⟨dm0, bm0, dm1, bm1, Am, cm, b5⟩ ⟨em0, em1, okm⟩
 refine rs (yl ag_87 1 ?_)
 refine AWL.callE rfl rfl (B rfl) rfl ce_53 (E rfl rfl) (evsC (E rfl rfl) (evsC (E rfl rfl) evs0)) (F1 := [Ent.box b5 3 [zi (dm1)], Ent.box b3 87 [.v (.pointer (some ⟨p, 0, none⟩))], Ent.box b2 93 (([.string ⟨#[]⟩, .int .i64 0, .int .i64 0, .int .i64 0, .slice none 0 0] : List Value).map T.v)]) (S1 := (BdE p bm1 Am cm)) rfl (cC p (1 + 10) bm1 Am cm okm (by omega) (1073741824)) ?_
 rintro t25 S25 ⟨d3, bd3, A3, c3, e3, ok3, rfl, rfl⟩
 refine AWL.allocOp rfl rfl (B rfl) rfl zc_3 (fun b6 => ?_)
 refine AWL.perm (List.perm_append_singleton _ _).symm ?_
 refine AWL.storeBox (i := 0) rfl rfl rfl ag_3 rfl (E rfl rfl) (E rfl rfl) rfl rfl nB (nl ?_)
 refine rs (Y1 (Yv.makeFunc rfl evs0 rfl (evsC eV (evsC eV (evsC eV evs0))) rfl) ?_)
 refine ya ?_
 refine rs (ym ?_)
 refine AWL.callAll rfl rfl (B rfl) rfl ce_75 (E rfl rfl) (evsC (E rfl rfl) (evsC (E rfl rfl) (evsC (E rfl rfl) (evsC (E rfl rfl) evs0)))) (cStart1a p (1 + 12) bd3 A3 c3 ok3 (by omega) [Ent.box b6 3 [zi (d3)], Ent.box b5 3 [zi (dm1)], Ent.box b3 87 [.v (.pointer (some ⟨p, 0, none⟩))], Ent.box b2 93 (([.string ⟨#[]⟩, .int .i64 0, .int .i64 0, .int .i64 0, .slice none 0 0] : List Value).map T.v)] 2 b3 rfl 0 b6 (d3) rfl 1 b5 (dm1) rfl (256) (264) (272) (2) (by decide) (by decide) (by decide)) ?_
 rintro t28 S28 ⟨rfl, bd4, A4, c4, e4, ok4, rfl⟩
 refine nl ?_
 refine rs (ym ?_)
 refine AWL.callAll rfl rfl (B rfl) rfl ce_75 (E rfl rfl) (evsC (E rfl rfl) (evsC (E rfl rfl) (evsC (E rfl rfl) (evsC (E rfl rfl) evs0)))) (cStart1a p (1 + 26) bd4 A4 c4 ok4 (by omega) [Ent.box b6 3 [zi (d3)], Ent.box b5 3 [zi (dm1)], Ent.box b3 87 [.v (.pointer (some ⟨p, 0, none⟩))], Ent.box b2 93 (([.string ⟨#[]⟩, .int .i64 0, .int .i64 0, .int .i64 0, .slice none 0 0] : List Value).map T.v)] 2 b3 rfl 0 b6 (d3) rfl 1 b5 (dm1) rfl (280) (288) (296) (4) (by decide) (by decide) (by decide)) ?_
 rintro t30 S30 ⟨rfl, bd5, A5, c5, e5, ok5, rfl⟩
 refine nl ?_
 refine rs (ym ?_)
 refine AWL.callAll rfl rfl (B rfl) rfl ce_75 (E rfl rfl) (evsC (E rfl rfl) (evsC (E rfl rfl) (evsC (E rfl rfl) (evsC (E rfl rfl) evs0)))) (cStart1b p (1 + 40) bd5 A5 c5 ok5 (by omega) [Ent.box b6 3 [zi (d3)], Ent.box b5 3 [zi (dm1)], Ent.box b3 87 [.v (.pointer (some ⟨p, 0, none⟩))], Ent.box b2 93 (([.string ⟨#[]⟩, .int .i64 0, .int .i64 0, .int .i64 0, .slice none 0 0] : List Value).map T.v)] 2 b3 rfl 0 b6 (d3) rfl 1 b5 (dm1) rfl (304) ((-1)) ((-1)) (4) (by decide) (by decide) (by decide)) ?_
 rintro t32 S32 ⟨rfl, bd6, A6, c6, e6, ok6, rfl⟩
 refine nl ?_
 refine rs (ym ?_)
 refine AWL.callAll rfl rfl (B rfl) rfl ce_75 (E rfl rfl) (evsC (E rfl rfl) (evsC (E rfl rfl) (evsC (E rfl rfl) (evsC (E rfl rfl) evs0)))) (cStart1c p (1 + 48) bd6 A6 c6 ok6 (by omega) [Ent.box b6 3 [zi (d3)], Ent.box b5 3 [zi (dm1)], Ent.box b3 87 [.v (.pointer (some ⟨p, 0, none⟩))], Ent.box b2 93 (([.string ⟨#[]⟩, .int .i64 0, .int .i64 0, .int .i64 0, .slice none 0 0] : List Value).map T.v)] 2 b3 rfl 0 b6 (d3) rfl 1 b5 (dm1) rfl (312) (320) ((-1)) (2) (by decide) (by decide) (by decide)) ?_
 rintro t34 S34 ⟨rfl, bd7, A7, c7, e7, ok7, rfl⟩
 refine nl ?_
 refine rs (yl ag_87 2 ?_)
 refine yl ag_3 0 ?_
 refine AWL.callE rfl rfl (B rfl) rfl ce_79 (E rfl rfl) (evsC (E rfl rfl) (evsC (E rfl rfl) (evsC (E rfl rfl) evs0))) (F1 := [Ent.box b6 3 [zi (d3)], Ent.box b5 3 [zi (dm1)], Ent.box b3 87 [.v (.pointer (some ⟨p, 0, none⟩))], Ent.box b2 93 (([.string ⟨#[]⟩, .int .i64 0, .int .i64 0, .int .i64 0, .slice none 0 0] : List Value).map T.v)]) (S1 := (BdE p bd7 A7 c7)) rfl (cIncr p (1 + 59) bd7 A7 c7 ok7 (by omega) (d3) (64)) ?_
 rintro t37 S37 ⟨d8, bd8, A8, c8, e8, ok8, rfl, rfl⟩
 refine nl ?_
 refine AW.rseqH (HeldCs [(b6, 0, Value.int .i64 (d3)), (b5, 0, Value.int .i64 (dm1)), (b3, 0, Value.pointer (some ⟨p, 0, none⟩))]) rfl (tells_cs (tcB 0 rfl rfl pinV (tcB 1 rfl rfl pinV (tcB 2 rfl rfl pinV (tc0))))) ?_
 refine T2 (i := 0) rfl (heldB 2 rfl ag_87 (E rfl rfl) rfl (fun _ _ => .v _)) ?_
 refine T2 (i := 1) rfl (heldB 2 rfl ag_87 (E rfl rfl) rfl (fun _ _ => .v _)) ?_
 refine AWH.one (i := 2) (by kernel_rfl) rfl ?_
 refine yl ag_3 1 ?_
 refine AWL.nil (kpH (tcB 0 rfl rfl pinV (tcB 1 rfl rfl pinV (tcB 2 rfl rfl pinV (tc0)))) ?_)
 refine AWH.one (i := 3) (by kernel_rfl) rfl ?_
 refine AWL.callE rfl rfl (B rfl) rfl ce_78 (E rfl rfl) (evsC (E rfl rfl) (evsC (E rfl rfl) (evsC (E rfl rfl) (evsC (E rfl rfl) evs0)))) (F1 := [Ent.box b6 3 [zi (d3)], Ent.box b5 3 [zi (dm1)], Ent.box b3 87 [.v (.pointer (some ⟨p, 0, none⟩))], Ent.box b2 93 (([.string ⟨#[]⟩, .int .i64 0, .int .i64 0, .int .i64 0, .slice none 0 0] : List Value).map T.v)]) (S1 := (BdE p bd8 A8 c8)) rfl (cOpC p (1 + 62) bd8 A8 c8 ok8 (by omega) (5) (dm1) (4)) ?_
 rintro t41 S41 ⟨d9, bd9, A9, c9, e9, ok9, rfl, rfl⟩
 refine AWL.nil (kpH (tcB 0 rfl rfl pinV (tcB 1 rfl rfl pinV (tcB 2 rfl rfl pinV (tc0)))) ?_)
 refine AWH.one (i := 4) (by kernel_rfl) rfl ?_
 refine AWL.callE rfl rfl (B rfl) rfl ce_76 (E rfl rfl) (evsC (E rfl rfl) (evsC (E rfl rfl) (evsC (E rfl rfl) evs0))) (F1 := [Ent.box b6 3 [zi (d3)], Ent.box b5 3 [zi (dm1)], Ent.box b3 87 [.v (.pointer (some ⟨p, 0, none⟩))], Ent.box b2 93 (([.string ⟨#[]⟩, .int .i64 0, .int .i64 0, .int .i64 0, .slice none 0 0] : List Value).map T.v)]) (S1 := (BdE p bd9 A9 c9)) rfl (cSetCell p (1 + 66) bd9 A9 c9 ok9 (by omega) (376) (d9)) ?_
 rintro t42 S42 ⟨d10, bd10, A10, c10, e10, ok10, rfl, rfl⟩
 refine AWL.nil (kpH (tcB 0 rfl rfl pinV (tcB 1 rfl rfl pinV (tcB 2 rfl rfl pinV (tc0)))) ?_)
 refine AWH.done (by kernel_rfl) ?_
 refine rs (yl ag_87 2 ?_)
 refine yl ag_3 0 ?_
 refine AWL.callE rfl rfl (B rfl) rfl ce_76 (E rfl rfl) (evsC (E rfl rfl) (evsC (E rfl rfl) (evsC (E rfl rfl) evs0))) (F1 := [Ent.box b6 3 [zi (d3)], Ent.box b5 3 [zi (dm1)], Ent.box b3 87 [.v (.pointer (some ⟨p, 0, none⟩))], Ent.box b2 93 (([.string ⟨#[]⟩, .int .i64 0, .int .i64 0, .int .i64 0, .slice none 0 0] : List Value).map T.v)]) (S1 := (BdE p bd10 A10 c10)) rfl (cSetCell p (1 + 69) bd10 A10 c10 ok10 (by omega) (8) (d3)) ?_
 rintro t45 S45 ⟨d11, bd11, A11, c11, e11, ok11, rfl, rfl⟩
 refine nl ?_
 refine rs (yl ag_87 2 ?_)
 refine yl ag_3 0 ?_
 refine AWL.callE rfl rfl (B rfl) rfl ce_76 (E rfl rfl) (evsC (E rfl rfl) (evsC (E rfl rfl) (evsC (E rfl rfl) evs0))) (F1 := [Ent.box b6 3 [zi (d3)], Ent.box b5 3 [zi (dm1)], Ent.box b3 87 [.v (.pointer (some ⟨p, 0, none⟩))], Ent.box b2 93 (([.string ⟨#[]⟩, .int .i64 0, .int .i64 0, .int .i64 0, .slice none 0 0] : List Value).map T.v)]) (S1 := (BdE p bd11 A11 c11)) rfl (cSetCell p (1 + 72) bd11 A11 c11 ok11 (by omega) (0) (d3)) ?_
 rintro t48 S48 ⟨d12, bd12, A12, c12, e12, ok12, rfl, rfl⟩
 refine nl ?_
 refine rs (yl ag_87 2 ?_)
 refine yl ag_3 1 ?_
 refine AWL.callE rfl rfl (B rfl) rfl ce_73 (E rfl rfl) (evsC (E rfl rfl) (evsC (E rfl rfl) (evsC (E rfl rfl) evs0))) (F1 := [Ent.box b6 3 [zi (d3)], Ent.box b5 3 [zi (dm1)], Ent.box b3 87 [.v (.pointer (some ⟨p, 0, none⟩))], Ent.box b2 93 (([.string ⟨#[]⟩, .int .i64 0, .int .i64 0, .int .i64 0, .slice none 0 0] : List Value).map T.v)]) (S1 := (BdE p bd12 A12 c12)) rfl (cShl p (1 + 75) bd12 A12 c12 ok12 (by omega) (dm1) (1)) ?_
 rintro t51 S51 ⟨d13, bd13, A13, c13, e13, ok13, rfl, rfl⟩
 refine AWL.allocOp rfl rfl (B rfl) rfl zc_3 (fun b8 => ?_)
 refine AWL.perm (List.perm_append_singleton _ _).symm ?_
 refine AWL.storeBox (i := 0) rfl rfl rfl ag_3 rfl (E rfl rfl) (E rfl rfl) rfl rfl nB (nl ?_)
 refine AW.rseqH (HeldCs [(b8, 0, Value.int .i64 (d13)), (b6, 0, Value.int .i64 (d3)), (b5, 0, Value.int .i64 (dm1)), (b3, 0, Value.pointer (some ⟨p, 0, none⟩))]) rfl (tells_cs (tcB 0 rfl rfl pinV (tcB 1 rfl rfl pinV (tcB 2 rfl rfl pinV (tcB 3 rfl rfl pinV (tc0)))))) ?_
 refine T2 (i := 0) rfl (heldB 3 rfl ag_87 (E rfl rfl) rfl (fun _ _ => .v _)) ?_
 refine T2 (i := 1) rfl (heldB 3 rfl ag_87 (E rfl rfl) rfl (fun _ _ => .v _)) ?_
 refine T2 (i := 3) rfl (heldB 0 rfl ag_3 (E rfl rfl) rfl (fun _ _ => .v _)) ?_
 refine T2 (i := 4) rfl (heldAll (freeMk rfl evs0 rfl (evsC (E rfl rfl) (evsC (E rfl rfl) evs0)) rfl)) ?_
 refine AWH.one (i := 2) (by kernel_rfl) rfl ?_
 refine AWL.callE rfl rfl (B rfl) rfl ce_53 (E rfl rfl) (evsC (E rfl rfl) (evsC (E rfl rfl) evs0)) (F1 := [Ent.box b8 3 [zi (d13)], Ent.box b6 3 [zi (d3)], Ent.box b5 3 [zi (dm1)], Ent.box b3 87 [.v (.pointer (some ⟨p, 0, none⟩))], Ent.box b2 93 (([.string ⟨#[]⟩, .int .i64 0, .int .i64 0, .int .i64 0, .slice none 0 0] : List Value).map T.v)]) (S1 := (BdE p bd13 A13 c13)) rfl (cC p (1 + 79) bd13 A13 c13 ok13 (by omega) (16777216)) ?_
 rintro t54 S54 ⟨d14, bd14, A14, c14, e14, ok14, rfl, rfl⟩
 refine AWL.nil (kpH (tcB 0 rfl rfl pinV (tcB 1 rfl rfl pinV (tcB 2 rfl rfl pinV (tcB 3 rfl rfl pinV (tc0))))) ?_)
 refine AWH.one (i := 5) (by kernel_rfl) rfl ?_
 refine AWL.callAll rfl rfl (B rfl) rfl ce_80 (E rfl rfl) (evsC (E rfl rfl) (evsC (E rfl rfl) (evsC (E rfl rfl) (evsC (E rfl rfl) (evsC (E rfl rfl) evs0))))) (cThen p (1 + 81) 1 bd14 A14 c14 ok14 (by omega) (3) (d14) (d13) 81 #[.pointer (some ⟨b3, 0, none⟩), .pointer (some ⟨b8, 0, none⟩)] [Ent.box b8 3 [zi (d13)], Ent.box b6 3 [zi (d3)], Ent.box b5 3 [zi (dm1)], Ent.box b3 87 [.v (.pointer (some ⟨p, 0, none⟩))], Ent.box b2 93 (([.string ⟨#[]⟩, .int .i64 0, .int .i64 0, .int .i64 0, .slice none 0 0] : List Value).map T.v)] (mStart2 (d13)) ce_81 (fun bd9 A9 c9 ok9 => cStart2 p _ bd9 A9 c9 ok9 (by omega) [Ent.box b8 3 [zi (d13)], Ent.box b6 3 [zi (d3)], Ent.box b5 3 [zi (dm1)], Ent.box b3 87 [.v (.pointer (some ⟨p, 0, none⟩))], Ent.box b2 93 (([.string ⟨#[]⟩, .int .i64 0, .int .i64 0, .int .i64 0, .slice none 0 0] : List Value).map T.v)] 3 b3 rfl 0 b8 (d13) rfl)) ?_
 rintro t57 S57 ⟨rfl, bd15, A15, c15, e15, ok15, rfl⟩
 refine AWL.nil (kpH (tcB 0 rfl rfl pinV (tcB 1 rfl rfl pinV (tcB 2 rfl rfl pinV (tcB 3 rfl rfl pinV (tc0))))) ?_)
 refine AWH.done (by kernel_rfl) ?_
 refine AW.rseqH (HeldCs [(b8, 0, Value.int .i64 (d13)), (b6, 0, Value.int .i64 (d3)), (b5, 0, Value.int .i64 (dm1)), (b3, 0, Value.pointer (some ⟨p, 0, none⟩))]) rfl (tells_cs (tcB 0 rfl rfl pinV (tcB 1 rfl rfl pinV (tcB 2 rfl rfl pinV (tcB 3 rfl rfl pinV (tc0)))))) ?_
 refine T2 (i := 0) rfl (heldB 3 rfl ag_87 (E rfl rfl) rfl (fun _ _ => .v _)) ?_
 refine T2 (i := 1) rfl (heldB 3 rfl ag_87 (E rfl rfl) rfl (fun _ _ => .v _)) ?_
 refine T2 (i := 2) rfl (heldB 1 rfl ag_3 (E rfl rfl) rfl (fun _ _ => .v _)) ?_
 refine AWH.one (i := 3) (by kernel_rfl) rfl ?_
 refine yl ag_3 0 ?_
 refine AWL.nil (kpH (tcB 0 rfl rfl pinV (tcB 1 rfl rfl pinV (tcB 2 rfl rfl pinV (tcB 3 rfl rfl pinV (tc0))))) ?_)
 refine AWH.one (i := 4) (by kernel_rfl) rfl ?_
 refine AWL.callE rfl rfl (B rfl) rfl ce_83 (E rfl rfl) (evsC (E rfl rfl) (evsC (E rfl rfl) (evsC (E rfl rfl) evs0))) (F1 := [Ent.box b8 3 [zi (d13)], Ent.box b6 3 [zi (d3)], Ent.box b5 3 [zi (dm1)], Ent.box b3 87 [.v (.pointer (some ⟨p, 0, none⟩))], Ent.box b2 93 (([.string ⟨#[]⟩, .int .i64 0, .int .i64 0, .int .i64 0, .slice none 0 0] : List Value).map T.v)]) (S1 := (BdE p bd15 A15 c15)) rfl (cAdd p (1 + 85) bd15 A15 c15 ok15 (by omega) (d3) (d13)) ?_
 rintro t62 S62 ⟨d16, bd16, A16, c16, e16, ok16, rfl, rfl⟩
 refine AWL.nil (kpH (tcB 0 rfl rfl pinV (tcB 1 rfl rfl pinV (tcB 2 rfl rfl pinV (tcB 3 rfl rfl pinV (tc0))))) ?_)
 refine AWH.one (i := 5) (by kernel_rfl) rfl ?_
 refine AWL.callE rfl rfl (B rfl) rfl ce_76 (E rfl rfl) (evsC (E rfl rfl) (evsC (E rfl rfl) (evsC (E rfl rfl) evs0))) (F1 := [Ent.box b8 3 [zi (d13)], Ent.box b6 3 [zi (d3)], Ent.box b5 3 [zi (dm1)], Ent.box b3 87 [.v (.pointer (some ⟨p, 0, none⟩))], Ent.box b2 93 (([.string ⟨#[]⟩, .int .i64 0, .int .i64 0, .int .i64 0, .slice none 0 0] : List Value).map T.v)]) (S1 := (BdE p bd16 A16 c16)) rfl (cSetCell p (1 + 87) bd16 A16 c16 ok16 (by omega) (16) (d16)) ?_
 rintro t63 S63 ⟨d17, bd17, A17, c17, e17, ok17, rfl, rfl⟩
 refine AWL.nil (kpH (tcB 0 rfl rfl pinV (tcB 1 rfl rfl pinV (tcB 2 rfl rfl pinV (tcB 3 rfl rfl pinV (tc0))))) ?_)
 refine AWH.done (by kernel_rfl) ?_
 refine rs (yl ag_87 3 ?_)
 refine AWL.callE rfl rfl (B rfl) rfl ce_53 (E rfl rfl) (evsC (E rfl rfl) (evsC (E rfl rfl) evs0)) (F1 := [Ent.box b8 3 [zi (d13)], Ent.box b6 3 [zi (d3)], Ent.box b5 3 [zi (dm1)], Ent.box b3 87 [.v (.pointer (some ⟨p, 0, none⟩))], Ent.box b2 93 (([.string ⟨#[]⟩, .int .i64 0, .int .i64 0, .int .i64 0, .slice none 0 0] : List Value).map T.v)]) (S1 := (BdE p bd17 A17 c17)) rfl (cC p (1 + 90) bd17 A17 c17 ok17 (by omega) (1)) ?_
 rintro t65 S65 ⟨d18, bd18, A18, c18, e18, ok18, rfl, rfl⟩
 refine ya ?_
 refine rs (yl ag_87 3 ?_)
 refine ym ?_
 refine AWL.callE rfl rfl (B rfl) rfl ce_76 (E rfl rfl) (evsC (E rfl rfl) (evsC (E rfl rfl) (evsC (E rfl rfl) evs0))) (F1 := [Ent.box b8 3 [zi (d13)], Ent.box b6 3 [zi (d3)], Ent.box b5 3 [zi (dm1)], Ent.box b3 87 [.v (.pointer (some ⟨p, 0, none⟩))], Ent.box b2 93 (([.string ⟨#[]⟩, .int .i64 0, .int .i64 0, .int .i64 0, .slice none 0 0] : List Value).map T.v)]) (S1 := (BdE p bd18 A18 c18)) rfl (cSetCell p (1 + 92) bd18 A18 c18 ok18 (by omega) (24) (d18)) ?_
 rintro t68 S68 ⟨d19, bd19, A19, c19, e19, ok19, rfl, rfl⟩
 refine nl ?_
 refine rs (yl ag_87 3 ?_)
 refine AWL.callE rfl rfl (B rfl) rfl ce_53 (E rfl rfl) (evsC (E rfl rfl) (evsC (E rfl rfl) evs0)) (F1 := [Ent.box b8 3 [zi (d13)], Ent.box b6 3 [zi (d3)], Ent.box b5 3 [zi (dm1)], Ent.box b3 87 [.v (.pointer (some ⟨p, 0, none⟩))], Ent.box b2 93 (([.string ⟨#[]⟩, .int .i64 0, .int .i64 0, .int .i64 0, .slice none 0 0] : List Value).map T.v)]) (S1 := (BdE p bd19 A19 c19)) rfl (cC p (1 + 95) bd19 A19 c19 ok19 (by omega) (16777227)) ?_
 rintro t70 S70 ⟨d20, bd20, A20, c20, e20, ok20, rfl, rfl⟩
 refine ya ?_
 refine AW.seq ?_
 refine ra ?_
 refine AW.block ?_
 refine AW.loop4 (fun (k : Nat) (lb : Bd) (lA : Option Addr) (lc : Nat) => [(0, true, zi (1)), (2, true, pv b2), (3, true, pv b3), (4, true, zi (d1)), (5, true, pv b5), (6, true, pv b6), (8, true, pv b8), (9, true, zi (d18)), (10, true, zi (d20)), (11, true, zi (k : Int))]) (fun (k : Nat) (lb : Bd) (lA : Option Addr) (lc : Nat) => ([Ent.box b8 3 [zi (d13)], Ent.box b6 3 [zi (d3)], Ent.box b5 3 [zi (dm1)], Ent.box b3 87 [.v (.pointer (some ⟨p, 0, none⟩))], Ent.box b2 93 (([.string ⟨#[]⟩, .int .i64 0, .int .i64 0, .int .i64 0, .slice none 0 0] : List Value).map T.v)] ++ BdE p lb lA lc)) (fun (k : Nat) (lb : Bd) (lA : Option Addr) (lc : Nat) => stepN (fun k => bnd (mSetCell ((32 + (16 * (k : Int)))) (d20)) fun _ =>
  mSetCell (((32 + (16 * (k : Int))) + 8)) (d18)) k bd20 = ((), lb) ∧ BdOk ((1 + 97) + 6 * k) lb ∧ k ≤ 8) (fun (k : Nat) (lb : Bd) (lA : Option Addr) (lc : Nat) => 8 - k) 0 bd20 A20 c20 ?_ ?_ ?_ ?_
 ·exact ⟨rfl, ok20.mono (by omega), by omega⟩
 ·exact (su (su (su (su (su (su (su (su (su (su sn))))))))))
 ·rfl
 intro k lb lA lc ⟨hst, okL, hle⟩
 refine AW.seq ?_
 refine rs (ym ?_)
 refine Y1 (Yv.lss rfl eV eV) (nl ?_)
 refine AW.cond rfl (fun h0t => ?_) (fun h0f => ?_)
 ·try replace h0t := odt h0t
  have hk : k < 8 := by omega
  refine AW.skip ?_
  refine AW.seq ?_
  refine AW.block ?_
  refine rs (yl ag_87 3 ?_)
  refine ym ?_
  refine Y1 (Yv.mulN_i64 rfl eV eV (fun hg => by omega)) ?_
  refine Y1 (Yv.addN_i64 rfl eV eV (fun hg => by omega)) ?_
  refine ym ?_
  refine AWL.callE rfl rfl (B rfl) rfl ce_76 (E rfl rfl) (evsC (E rfl rfl) (evsC (E rfl rfl) (evsC (E rfl rfl) evs0))) (F1 := [Ent.box b8 3 [zi (d13)], Ent.box b6 3 [zi (d3)], Ent.box b5 3 [zi (dm1)], Ent.box b3 87 [.v (.pointer (some ⟨p, 0, none⟩))], Ent.box b2 93 (([.string ⟨#[]⟩, .int .i64 0, .int .i64 0, .int .i64 0, .slice none 0 0] : List Value).map T.v)]) (S1 := (BdE p lb lA lc)) rfl (cSetCell p ((1 + 97) + 6 * k) lb lA lc okL (by omega) ((32 + (16 * (k : Int)))) (d20)) ?_
  rintro t80 S80 ⟨d21, bd21, A21, c21, e21, ok21, rfl, rfl⟩
  refine nl ?_
  refine AW.region ?_
  refine yl ag_87 3 ?_
  refine ym ?_
  refine Y1 (Yv.mulN_i64 rfl eV eV (fun hg => by omega)) ?_
  refine Y1 (Yv.addN_i64 rfl eV eV (fun hg => by omega)) ?_
  refine Y1 (Yv.addN_i64 rfl eV eV (fun hg => by omega)) ?_
  refine ym ?_
  refine AWL.callE rfl rfl (B rfl) rfl ce_76 (E rfl rfl) (evsC (E rfl rfl) (evsC (E rfl rfl) (evsC (E rfl rfl) evs0))) (F1 := [Ent.box b8 3 [zi (d13)], Ent.box b6 3 [zi (d3)], Ent.box b5 3 [zi (dm1)], Ent.box b3 87 [.v (.pointer (some ⟨p, 0, none⟩))], Ent.box b2 93 (([.string ⟨#[]⟩, .int .i64 0, .int .i64 0, .int .i64 0, .slice none 0 0] : List Value).map T.v)]) (S1 := (BdE p bd21 A21 c21)) rfl (cSetCell p (((1 + 97) + 6 * k) + 3) bd21 A21 c21 ok21 (by omega) (((32 + (16 * (k : Int))) + 8)) (d18)) ?_
  rintro t87 S87 ⟨d22, bd22, A22, c22, e22, ok22, rfl, rfl⟩
  refine nl ?_
  refine AW.region ?_
  refine ym ?_
  refine Y1 (Yv.addN_i64 rfl eV eV (fun hg => by omega)) ?_
  refine ya ?_
  refine ⟨k + 1, bd22, A22, c22, ⟨stepN_succ hst ((bq e21).trans (e22)), ok22.mono (by omega), by omega⟩, by omega, (su (su (su (su (su (su (su (su (su (su sn)))))))))), rfl⟩
 try replace h0f := odf h0f
 obtain rfl : k = 8 := by omega
 refine AW.exit ?_
 refine rs (yl ag_87 3 ?_)
 refine ym ?_
 refine AWL.callE rfl rfl (B rfl) rfl ce_52 (E rfl rfl) (evsC (E rfl rfl) (evsC (E rfl rfl) evs0)) (F1 := [Ent.box b8 3 [zi (d13)], Ent.box b6 3 [zi (d3)], Ent.box b5 3 [zi (dm1)], Ent.box b3 87 [.v (.pointer (some ⟨p, 0, none⟩))], Ent.box b2 93 (([.string ⟨#[]⟩, .int .i64 0, .int .i64 0, .int .i64 0, .slice none 0 0] : List Value).map T.v)]) (S1 := (BdE p lb lA lc)) rfl (cRet p ((1 + 97) + 6 * 8) lb lA lc okL (by omega) (d18)) ?_
 rintro t90 S90 ⟨d21, bd21, A21, c21, e21, ok21, rfl, rfl⟩
 refine nl ?_
 refine rs (yl ag_87 3 ?_)
 refine AWL.callE rfl rfl (B rfl) rfl ce_35 (E rfl rfl) (evsC (E rfl rfl) evs0) (F1 := [Ent.box b8 3 [zi (d13)], Ent.box b6 3 [zi (d3)], Ent.box b5 3 [zi (dm1)], Ent.box b3 87 [.v (.pointer (some ⟨p, 0, none⟩))], Ent.box b2 93 (([.string ⟨#[]⟩, .int .i64 0, .int .i64 0, .int .i64 0, .slice none 0 0] : List Value).map T.v)]) (S1 := (BdE p bd21 A21 c21)) rfl (cDone p bd21 A21 c21) ?_
 rintro t92 S92 ⟨rfl, rfl⟩
 refine AWL.storeBox (i := 4) rfl rfl rfl ag_93 rfl (E rfl rfl) (E rfl rfl) rfl rfl nB (nl ?_)
 refine AW.ret (retI (.cellA (i := 4) rfl ag_93 rfl rfl rfl .nil) ?_)
 show _ = T.agg (fnCells (fnB (mStartFn (bd0 [103, 99, 46, 115, 116, 97, 114, 116] 0)).2))
 rw [show mStartFn (bd0 [103, 99, 46, 115, 116, 97, 114, 116] 0) = ((), bd21) from (bq e1).trans ((bq e2).trans ((bq em0).trans ((bq em1).trans ((bq e3).trans ((bq e4).trans ((bq e5).trans ((bq e6).trans ((bq e7).trans ((bq e8).trans ((bq e9).trans ((bq e10).trans ((bq e11).trans ((bq e12).trans ((bq e13).trans ((bq e14).trans ((bq e15).trans ((bq e16).trans ((bq e17).trans ((bq e18).trans ((bq e19).trans ((bq e20).trans ((bq hst).trans (e21)))))))))))))))))))))))]
 rfl

theorem cStartFn : ACalls Tryz.prog 54 [zi 1] [] (fun t S => t = .agg (fnCells fStartFn) ∧ S = []) := (cStartFn_).less fun t S' h => ⟨[], List.nil_sublist _, h, rfl⟩
def mSizeFn : BM Unit :=
 bnd (mShr (0) (1)) fun d1 =>
 bnd (mAnd (d1) (15)) fun d2 =>
 bnd (mShr (0) (24)) fun d3 =>
 bnd (mShl (d3) (3)) fun d4 =>
 bnd (labelM) fun d5 =>
 bnd (stepN (fun k => mIfC (1) (d2) ((([2, 7, 3, 4] : List Int).getD k 0)) (d5)) 4) fun _ =>
 bnd (mAddC (d4) (8)) fun d6 =>
 bnd (mRet (d6)) fun _ =>
 bnd (mAt (d5)) fun _ =>
 bnd (mAddC (d3) (7)) fun d9 =>
 bnd (mShr (d9) (3)) fun d10 =>
 bnd (mShl (d10) (3)) fun d11 =>
 bnd (mAddC (d11) (8)) fun d12 =>
 mRet (d12)
def fSizeFn : Fn := fnB (mSizeFn (bd0 [103, 99, 46, 115, 105, 122, 101] 1)).2
set_option maxHeartbeats 16000000 in
theorem cSizeFn_  :
    ACalls Tryz.prog 60 [] [] (fun t S => t = .agg (fnCells (fSizeFn))) := by
 refine ACalls.intro Tryz.func60 rfl Tryz.ntmps60 nB rfl fun X w0 => ?_
 refine rs ?_
 refine AWL.allocOp rfl rfl (B rfl) rfl zc_93 (fun b0 => ?_)
 refine AWL.perm (List.perm_append_singleton _ _).symm (nl ?_)
 refine rs ?_
 refine AWL.callE rfl rfl (B rfl) rfl ce_32 (E rfl rfl) (evsC (E rfl rfl) (evsC (E rfl rfl) evs0)) (F1 := [Ent.box b0 93 (([.string ⟨#[]⟩, .int .i64 0, .int .i64 0, .int .i64 0, .slice none 0 0] : List Value).map T.v)]) (S1 := []) rfl (cNew [103, 99, 46, 115, 105, 122, 101] 1) ?_
 rintro t9 S9 ⟨p, rfl, rfl⟩
 have ok0 : BdOk 1 (bd0 [103, 99, 46, 115, 105, 122, 101] 1) := ⟨by decide, by decide, by decide, by decide, by decide, by decide, by decide⟩
 refine ya ?_
 refine ra ?_
 refine rs (ym ?_)
 refine ym ?_
 refine ym ?_
 refine AWL.callE rfl rfl (B rfl) rfl ce_74 (E rfl rfl) (evsC (E rfl rfl) (evsC (E rfl rfl) (evsC (E rfl rfl) evs0))) (F1 := [Ent.box b0 93 (([.string ⟨#[]⟩, .int .i64 0, .int .i64 0, .int .i64 0, .slice none 0 0] : List Value).map T.v)]) (S1 := (BdE p (bd0 [103, 99, 46, 115, 105, 122, 101] 1) none 0)) rfl (cShr p 1 (bd0 [103, 99, 46, 115, 105, 122, 101] 1) none 0 ok0 (by omega) (0) (1)) ?_
 rintro t13 S13 ⟨d1, bd1, A1, c1, e1, ok1, rfl, rfl⟩
 refine AWL.callE rfl rfl (B rfl) rfl ce_100 (E rfl rfl) (evsC (E rfl rfl) (evsC (E rfl rfl) (evsC (E rfl rfl) evs0))) (F1 := [Ent.box b0 93 (([.string ⟨#[]⟩, .int .i64 0, .int .i64 0, .int .i64 0, .slice none 0 0] : List Value).map T.v)]) (S1 := (BdE p bd1 A1 c1)) rfl (cAnd p (1 + 4) bd1 A1 c1 ok1 (by omega) (d1) (15)) ?_
 rintro t14 S14 ⟨d2, bd2, A2, c2, e2, ok2, rfl, rfl⟩
 refine ya ?_
 refine rs (ym ?_)
 refine ym ?_
 refine AWL.callE rfl rfl (B rfl) rfl ce_74 (E rfl rfl) (evsC (E rfl rfl) (evsC (E rfl rfl) (evsC (E rfl rfl) evs0))) (F1 := [Ent.box b0 93 (([.string ⟨#[]⟩, .int .i64 0, .int .i64 0, .int .i64 0, .slice none 0 0] : List Value).map T.v)]) (S1 := (BdE p bd2 A2 c2)) rfl (cShr p (1 + 8) bd2 A2 c2 ok2 (by omega) (0) (24)) ?_
 rintro t17 S17 ⟨d3, bd3, A3, c3, e3, ok3, rfl, rfl⟩
 refine ya ?_
 refine rs (ym ?_)
 refine ym ?_
 refine AWL.callE rfl rfl (B rfl) rfl ce_73 (E rfl rfl) (evsC (E rfl rfl) (evsC (E rfl rfl) (evsC (E rfl rfl) evs0))) (F1 := [Ent.box b0 93 (([.string ⟨#[]⟩, .int .i64 0, .int .i64 0, .int .i64 0, .slice none 0 0] : List Value).map T.v)]) (S1 := (BdE p bd3 A3 c3)) rfl (cShl p (1 + 12) bd3 A3 c3 ok3 (by omega) (d3) (3)) ?_
 rintro t20 S20 ⟨d4, bd4, A4, c4, e4, ok4, rfl, rfl⟩
 refine ya ?_
 refine rs (ym ?_)
 refine AWL.callE rfl rfl (B rfl) rfl ce_84 (E rfl rfl) (evsC (E rfl rfl) evs0) (F1 := [Ent.box b0 93 (([.string ⟨#[]⟩, .int .i64 0, .int .i64 0, .int .i64 0, .slice none 0 0] : List Value).map T.v)]) (S1 := (BdE p bd4 A4 c4)) rfl (cLabel p (1 + 16) bd4 A4 c4 ok4 (by omega) ) ?_
 rintro t22 S22 ⟨d5, bd5, A5, c5, e5, ok5, rfl, rfl⟩
 refine ya ?_
 refine AW.seq ?_
 refine rs ?_
 refine AWL.buildSlice1 rfl rfl (B rfl) rfl el_161 rfl (evsC (E rfl rfl) (evsC (E rfl rfl) (evsC (E rfl rfl) (evsC (E rfl rfl) evs0)))) nB rfl rfl ?_
 refine Y1 (Yv.lenSl rfl so_161 (B rfl) eV len4) ?_
 refine ym (nl ?_)
 refine AW.block ?_
 refine AW.loop4 (fun (k : Nat) (lb : Bd) (lA : Option Addr) (lc : Nat) => [(0, true, pv b0), (1, true, pv p), (2, true, zi (0)), (3, true, zi (d2)), (4, true, zi (d3)), (5, true, zi (d4)), (6, true, zi (d5)), (23, true, .sl 1 (([2, 7, 3, 4] : List Int).map zi)), (24, true, zi (4)), (25, true, zi (k : Int))]) (fun (k : Nat) (lb : Bd) (lA : Option Addr) (lc : Nat) => ([Ent.box b0 93 (([.string ⟨#[]⟩, .int .i64 0, .int .i64 0, .int .i64 0, .slice none 0 0] : List Value).map T.v)] ++ BdE p lb lA lc)) (fun (k : Nat) (lb : Bd) (lA : Option Addr) (lc : Nat) => stepN (fun k => mIfC (1) (d2) ((([2, 7, 3, 4] : List Int).getD k 0)) (d5)) k bd5 = ((), lb) ∧ BdOk ((1 + 17) + 3 * k) lb ∧ k ≤ 4) (fun (k : Nat) (lb : Bd) (lA : Option Addr) (lc : Nat) => 4 - k) 0 bd5 A5 c5 ?_ ?_ ?_ ?_
 ·exact ⟨rfl, ok5.mono (by omega), by omega⟩
 ·exact (su (su (su (su (su (su (su (su (su (su sn))))))))))
 ·rfl
 intro k lb lA lc ⟨hst, okL, hle⟩
 refine rs (Y1 (Yv.lss rfl eV eV) (nl ?_))
 refine AW.seq ?_
 refine AW.cond rfl (fun h0t => ?_) (fun h0f => ?_)
 ·try replace h0t := odt h0t
  have hk : k < 4 := by omega
  refine AW.skip ?_
  refine AW.seq ?_
  refine AW.block ?_
  refine rs (Y1 (Yv.indexSl rfl ss_161 (B rfl) eV eV (fun hg => ⟨rfl, (by first | omega | (simp only [len4, len3, List.length_map, List.length_cons, List.length_nil]; omega))⟩)) ?_)
  refine Y1 (Yv.loadRp rfl ag_2 eV (fun hg => lit_at (l := [2, 7, 3, 4]) (by show k < 4; omega))) ?_
  refine ya ?_
  refine AW.region ?_
  refine ym ?_
  refine ym ?_
  refine ym ?_
  refine ym ?_
  refine AWL.callE rfl rfl (B rfl) rfl ce_107 (E rfl rfl) (evsC (E rfl rfl) (evsC (E rfl rfl) (evsC (E rfl rfl) (evsC (E rfl rfl) (evsC (E rfl rfl) evs0))))) (F1 := [Ent.box b0 93 (([.string ⟨#[]⟩, .int .i64 0, .int .i64 0, .int .i64 0, .slice none 0 0] : List Value).map T.v)]) (S1 := (BdE p lb lA lc)) rfl (cIfC p ((1 + 17) + 3 * k) lb lA lc okL (by omega) (1) (d2) ((([2, 7, 3, 4] : List Int).getD k 0)) (d5)) ?_
  rintro t33 S33 ⟨d6, bd6, A6, c6, e6, ok6, rfl, rfl⟩
  refine nl ?_
  refine AW.region ?_
  refine Y1 (Yv.addN_i64 rfl eV eV (fun hg => by omega)) ?_
  refine ym (nl ?_)
  refine ⟨k + 1, bd6, A6, c6, ⟨stepN_succ hst (e6), ok6.mono (by omega), by omega⟩, by omega, (su (su (su (su (su (su (su (su (su (su sn)))))))))), rfl⟩
 try replace h0f := odf h0f
 obtain rfl : k = 4 := by omega
 refine AW.exit ?_
 refine rs (ym ?_)
 refine ym ?_
 refine ym ?_
 refine AWL.callE rfl rfl (B rfl) rfl ce_93 (E rfl rfl) (evsC (E rfl rfl) (evsC (E rfl rfl) (evsC (E rfl rfl) evs0))) (F1 := [Ent.box b0 93 (([.string ⟨#[]⟩, .int .i64 0, .int .i64 0, .int .i64 0, .slice none 0 0] : List Value).map T.v)]) (S1 := (BdE p lb lA lc)) rfl (cAddC p ((1 + 17) + 3 * 4) lb lA lc okL (by omega) (d4) (8)) ?_
 rintro t38 S38 ⟨d6, bd6, A6, c6, e6, ok6, rfl, rfl⟩
 refine AWL.callE rfl rfl (B rfl) rfl ce_52 (E rfl rfl) (evsC (E rfl rfl) (evsC (E rfl rfl) evs0)) (F1 := [Ent.box b0 93 (([.string ⟨#[]⟩, .int .i64 0, .int .i64 0, .int .i64 0, .slice none 0 0] : List Value).map T.v)]) (S1 := (BdE p bd6 A6 c6)) rfl (cRet p (((1 + 17) + 3 * 4) + 4) bd6 A6 c6 ok6 (by omega) (d6)) ?_
 rintro t39 S39 ⟨d7, bd7, A7, c7, e7, ok7, rfl, rfl⟩
 refine nl ?_
 refine rs (ym ?_)
 refine ym ?_
 refine AWL.callE rfl rfl (B rfl) rfl ce_88 (E rfl rfl) (evsC (E rfl rfl) (evsC (E rfl rfl) evs0)) (F1 := [Ent.box b0 93 (([.string ⟨#[]⟩, .int .i64 0, .int .i64 0, .int .i64 0, .slice none 0 0] : List Value).map T.v)]) (S1 := (BdE p bd7 A7 c7)) rfl (cAt p (((1 + 17) + 3 * 4) + 5) bd7 A7 c7 ok7 (by omega) (d5)) ?_
 rintro t42 S42 ⟨d8, bd8, A8, c8, e8, ok8, rfl, rfl⟩
 refine nl ?_
 refine rs (ym ?_)
 refine ym ?_
 refine ym ?_
 refine ym ?_
 refine ym ?_
 refine ym ?_
 refine AWL.callE rfl rfl (B rfl) rfl ce_93 (E rfl rfl) (evsC (E rfl rfl) (evsC (E rfl rfl) (evsC (E rfl rfl) evs0))) (F1 := [Ent.box b0 93 (([.string ⟨#[]⟩, .int .i64 0, .int .i64 0, .int .i64 0, .slice none 0 0] : List Value).map T.v)]) (S1 := (BdE p bd8 A8 c8)) rfl (cAddC p (((1 + 17) + 3 * 4) + 6) bd8 A8 c8 ok8 (by omega) (d3) (7)) ?_
 rintro t49 S49 ⟨d9, bd9, A9, c9, e9, ok9, rfl, rfl⟩
 refine AWL.callE rfl rfl (B rfl) rfl ce_74 (E rfl rfl) (evsC (E rfl rfl) (evsC (E rfl rfl) (evsC (E rfl rfl) evs0))) (F1 := [Ent.box b0 93 (([.string ⟨#[]⟩, .int .i64 0, .int .i64 0, .int .i64 0, .slice none 0 0] : List Value).map T.v)]) (S1 := (BdE p bd9 A9 c9)) rfl (cShr p (((1 + 17) + 3 * 4) + 10) bd9 A9 c9 ok9 (by omega) (d9) (3)) ?_
 rintro t50 S50 ⟨d10, bd10, A10, c10, e10, ok10, rfl, rfl⟩
 refine AWL.callE rfl rfl (B rfl) rfl ce_73 (E rfl rfl) (evsC (E rfl rfl) (evsC (E rfl rfl) (evsC (E rfl rfl) evs0))) (F1 := [Ent.box b0 93 (([.string ⟨#[]⟩, .int .i64 0, .int .i64 0, .int .i64 0, .slice none 0 0] : List Value).map T.v)]) (S1 := (BdE p bd10 A10 c10)) rfl (cShl p (((1 + 17) + 3 * 4) + 14) bd10 A10 c10 ok10 (by omega) (d10) (3)) ?_
 rintro t51 S51 ⟨d11, bd11, A11, c11, e11, ok11, rfl, rfl⟩
 refine AWL.callE rfl rfl (B rfl) rfl ce_93 (E rfl rfl) (evsC (E rfl rfl) (evsC (E rfl rfl) (evsC (E rfl rfl) evs0))) (F1 := [Ent.box b0 93 (([.string ⟨#[]⟩, .int .i64 0, .int .i64 0, .int .i64 0, .slice none 0 0] : List Value).map T.v)]) (S1 := (BdE p bd11 A11 c11)) rfl (cAddC p (((1 + 17) + 3 * 4) + 18) bd11 A11 c11 ok11 (by omega) (d11) (8)) ?_
 rintro t52 S52 ⟨d12, bd12, A12, c12, e12, ok12, rfl, rfl⟩
 refine AWL.callE rfl rfl (B rfl) rfl ce_52 (E rfl rfl) (evsC (E rfl rfl) (evsC (E rfl rfl) evs0)) (F1 := [Ent.box b0 93 (([.string ⟨#[]⟩, .int .i64 0, .int .i64 0, .int .i64 0, .slice none 0 0] : List Value).map T.v)]) (S1 := (BdE p bd12 A12 c12)) rfl (cRet p (((1 + 17) + 3 * 4) + 22) bd12 A12 c12 ok12 (by omega) (d12)) ?_
 rintro t53 S53 ⟨d13, bd13, A13, c13, e13, ok13, rfl, rfl⟩
 refine nl ?_
 refine rs (ym ?_)
 refine AWL.callE rfl rfl (B rfl) rfl ce_35 (E rfl rfl) (evsC (E rfl rfl) evs0) (F1 := [Ent.box b0 93 (([.string ⟨#[]⟩, .int .i64 0, .int .i64 0, .int .i64 0, .slice none 0 0] : List Value).map T.v)]) (S1 := (BdE p bd13 A13 c13)) rfl (cDone p bd13 A13 c13) ?_
 rintro t55 S55 ⟨rfl, rfl⟩
 refine AWL.storeBox (i := 0) rfl rfl rfl ag_93 rfl (E rfl rfl) (E rfl rfl) rfl rfl nB (nl ?_)
 refine AW.ret (retI (.cellA (i := 0) rfl ag_93 rfl rfl rfl .nil) ?_)
 show _ = T.agg (fnCells (fnB (mSizeFn (bd0 [103, 99, 46, 115, 105, 122, 101] 1)).2))
 rw [show mSizeFn (bd0 [103, 99, 46, 115, 105, 122, 101] 1) = ((), bd13) from (bq e1).trans ((bq e2).trans ((bq e3).trans ((bq e4).trans ((bq e5).trans ((bq hst).trans ((bq e6).trans ((bq e7).trans ((bq e8).trans ((bq e9).trans ((bq e10).trans ((bq e11).trans ((bq e12).trans (e13)))))))))))))]
 rfl

theorem cSizeFn : ACalls Tryz.prog 60 [] [] (fun t S => t = .agg (fnCells fSizeFn) ∧ S = []) := (cSizeFn_).less fun t S' h => ⟨[], List.nil_sublist _, h, rfl⟩
def mScanFn : BM Unit :=
 bnd (mGet (0) (0)) fun d1 =>
 bnd (mShr (d1) (1)) fun d2 =>
 bnd (mAnd (d2) (15)) fun d3 =>
 bnd (mCall ((1 + 6)) [d1]) fun d4 =>
 bnd (mAdd (0) (d4)) fun d5 =>
 bnd (mAddC (0) (8)) fun d6 =>
 bnd (labelM) fun d7 =>
 bnd (stepN (fun k => mIfC (1) (d3) ((([1, 5, 6] : List Int).getD k 0)) (d7)) 3) fun _ =>
 bnd (labelM) fun d8 =>
 bnd (mIfC (1) (d3) (8) (d8)) fun _ =>
 bnd (mRet (d5)) fun _ =>
 bnd (mAt (d8)) fun _ =>
 bnd (mIncr (d6) (8)) fun _ =>
 bnd (mAt (d7)) fun _ =>
 bnd (mWhile (5) (mScan1 (d6) (d5)) (mScan2 (d6))) fun _ =>
 mRet (d5)
def fScanFn : Fn := fnB (mScanFn (bd0 [103, 99, 46, 115, 99, 97, 110] 1)).2
set_option maxHeartbeats 16000000 in
theorem cScanFn_  :
    ACalls Tryz.prog 63 [zi 1] [] (fun t S => t = .agg (fnCells (fScanFn))) := by
 refine ACalls.intro Tryz.func63 rfl Tryz.ntmps63 nB rfl fun X w0 => ?_
 refine rs ?_
 refine AWL.boxOp rfl rfl (B rfl) rfl (E rfl rfl) rfl (fun b1 => ?_)
 refine AWL.perm (List.perm_append_singleton _ _).symm ?_
 refine AWL.allocOp rfl rfl (B rfl) rfl zc_93 (fun b2 => ?_)
 refine AWL.perm (List.perm_append_singleton _ _).symm (nl ?_)
 refine rs ?_
 refine AWL.callE rfl rfl (B rfl) rfl ce_32 (E rfl rfl) (evsC (E rfl rfl) (evsC (E rfl rfl) evs0)) (F1 := [Ent.box b2 93 (([.string ⟨#[]⟩, .int .i64 0, .int .i64 0, .int .i64 0, .slice none 0 0] : List Value).map T.v), Ent.box b1 3 [zi (1)]]) (S1 := []) rfl (cNew [103, 99, 46, 115, 99, 97, 110] 1) ?_
 rintro t14 S14 ⟨p, rfl, rfl⟩
 have ok0 : BdOk 1 (bd0 [103, 99, 46, 115, 99, 97, 110] 1) := ⟨by decide, by decide, by decide, by decide, by decide, by decide, by decide⟩
 refine AWL.allocOp rfl rfl (B rfl) rfl zc_87 (fun b3 => ?_)
 refine AWL.perm (List.perm_append_singleton _ _).symm ?_
 refine AWL.storeBox (i := 0) rfl rfl rfl ag_87 rfl (E rfl rfl) (E rfl rfl) rfl rfl nB (nl ?_)
 refine ra ?_
 refine rs (yl ag_87 0 ?_)
 refine ym ?_
 refine AWL.callE rfl rfl (B rfl) rfl ce_99 (E rfl rfl) (evsC (E rfl rfl) (evsC (E rfl rfl) (evsC (E rfl rfl) evs0))) (F1 := [Ent.box b3 87 [.v (.pointer (some ⟨p, 0, none⟩))], Ent.box b2 93 (([.string ⟨#[]⟩, .int .i64 0, .int .i64 0, .int .i64 0, .slice none 0 0] : List Value).map T.v), Ent.box b1 3 [zi (1)]]) (S1 := (BdE p (bd0 [103, 99, 46, 115, 99, 97, 110] 1) none 0)) rfl (cGet p 1 (bd0 [103, 99, 46, 115, 99, 97, 110] 1) none 0 ok0 (by omega) (0) (0)) ?_
 rintro t17 S17 ⟨d1, bd1, A1, c1, e1, ok1, rfl, rfl⟩
 refine ya ?_
 refine AW.rseqH (HeldCs [(b3, 0, Value.pointer (some ⟨p, 0, none⟩)), (b1, 0, Value.int .i64 (1))]) rfl (tells_cs (tcB 0 rfl rfl pinV (tcB 2 rfl rfl pinV (tc0)))) ?_
 refine T2 (i := 0) rfl (heldB 0 rfl ag_87 (E rfl rfl) rfl (fun _ _ => .v _)) ?_
 refine T2 (i := 1) rfl (heldB 0 rfl ag_87 (E rfl rfl) rfl (fun _ _ => .v _)) ?_
 refine AWH.one (i := 2) (by kernel_rfl) rfl ?_
 refine ym ?_
 refine AWL.nil (kpH (tcB 0 rfl rfl pinV (tcB 2 rfl rfl pinV (tc0))) ?_)
 refine AWH.one (i := 3) (by kernel_rfl) rfl ?_
 refine AWL.callE rfl rfl (B rfl) rfl ce_74 (E rfl rfl) (evsC (E rfl rfl) (evsC (E rfl rfl) (evsC (E rfl rfl) evs0))) (F1 := [Ent.box b3 87 [.v (.pointer (some ⟨p, 0, none⟩))], Ent.box b2 93 (([.string ⟨#[]⟩, .int .i64 0, .int .i64 0, .int .i64 0, .slice none 0 0] : List Value).map T.v), Ent.box b1 3 [zi (1)]]) (S1 := (BdE p bd1 A1 c1)) rfl (cShr p (1 + 2) bd1 A1 c1 ok1 (by omega) (d1) (1)) ?_
 rintro t21 S21 ⟨d2, bd2, A2, c2, e2, ok2, rfl, rfl⟩
 refine AWL.nil (kpH (tcB 0 rfl rfl pinV (tcB 2 rfl rfl pinV (tc0))) ?_)
 refine AWH.one (i := 4) (by kernel_rfl) rfl ?_
 refine AWL.callE rfl rfl (B rfl) rfl ce_100 (E rfl rfl) (evsC (E rfl rfl) (evsC (E rfl rfl) (evsC (E rfl rfl) evs0))) (F1 := [Ent.box b3 87 [.v (.pointer (some ⟨p, 0, none⟩))], Ent.box b2 93 (([.string ⟨#[]⟩, .int .i64 0, .int .i64 0, .int .i64 0, .slice none 0 0] : List Value).map T.v), Ent.box b1 3 [zi (1)]]) (S1 := (BdE p bd2 A2 c2)) rfl (cAnd p (1 + 6) bd2 A2 c2 ok2 (by omega) (d2) (15)) ?_
 rintro t22 S22 ⟨d3, bd3, A3, c3, e3, ok3, rfl, rfl⟩
 refine AWL.nil (kpH (tcB 0 rfl rfl pinV (tcB 2 rfl rfl pinV (tc0))) ?_)
 refine AWH.one (i := 5) (by kernel_rfl) rfl ?_
 refine Y1 (Yv.assign rfl eV) ?_
 refine AWL.nil (kpH (tcB 0 rfl rfl pinV (tcB 2 rfl rfl pinV (tc0))) ?_)
 refine AWH.done (by kernel_rfl) ?_
 refine rs (yl ag_87 0 ?_)
 refine yl ag_3 2 ?_
 refine Y1 (Yv.addN_i64 rfl eV eV (fun hg => by omega)) ?_
 refine ym ?_
 refine AWL.buildSlice1 rfl rfl (B rfl) rfl el_35 rfl (evsC (E rfl rfl) evs0) nB rfl rfl ?_
 refine AWL.callE rfl rfl (B rfl) rfl ce_33 (E rfl rfl) (evsC (E rfl rfl) (evsC (E rfl rfl) (evsC (E rfl rfl) evs0))) (F1 := [Ent.box b3 87 [.v (.pointer (some ⟨p, 0, none⟩))], Ent.box b2 93 (([.string ⟨#[]⟩, .int .i64 0, .int .i64 0, .int .i64 0, .slice none 0 0] : List Value).map T.v), Ent.box b1 3 [zi (1)]]) (S1 := (BdE p bd3 A3 c3)) rfl (cCall p (1 + 10) bd3 A3 c3 ok3 (by omega) ((1 + 6)) [d1]) ?_
 rintro t28 S28 ⟨d4, bd4, A4, c4, e4, ok4, rfl, rfl⟩
 refine ya ?_
 refine rs (yl ag_87 0 ?_)
 refine ym ?_
 refine ym ?_
 refine AWL.callE rfl rfl (B rfl) rfl ce_83 (E rfl rfl) (evsC (E rfl rfl) (evsC (E rfl rfl) (evsC (E rfl rfl) evs0))) (F1 := [Ent.box b3 87 [.v (.pointer (some ⟨p, 0, none⟩))], Ent.box b2 93 (([.string ⟨#[]⟩, .int .i64 0, .int .i64 0, .int .i64 0, .slice none 0 0] : List Value).map T.v), Ent.box b1 3 [zi (1)]]) (S1 := (BdE p bd4 A4 c4)) rfl (cAdd p (1 + 12) bd4 A4 c4 ok4 (by omega) (0) (d4)) ?_
 rintro t32 S32 ⟨d5, bd5, A5, c5, e5, ok5, rfl, rfl⟩
 refine AWL.allocOp rfl rfl (B rfl) rfl zc_3 (fun b8 => ?_)
 refine AWL.perm (List.perm_append_singleton _ _).symm ?_
 refine AWL.storeBox (i := 0) rfl rfl rfl ag_3 rfl (E rfl rfl) (E rfl rfl) rfl rfl nB (nl ?_)
 refine rs (yl ag_87 1 ?_)
 refine ym ?_
 refine AWL.callE rfl rfl (B rfl) rfl ce_93 (E rfl rfl) (evsC (E rfl rfl) (evsC (E rfl rfl) (evsC (E rfl rfl) evs0))) (F1 := [Ent.box b8 3 [zi (d5)], Ent.box b3 87 [.v (.pointer (some ⟨p, 0, none⟩))], Ent.box b2 93 (([.string ⟨#[]⟩, .int .i64 0, .int .i64 0, .int .i64 0, .slice none 0 0] : List Value).map T.v), Ent.box b1 3 [zi (1)]]) (S1 := (BdE p bd5 A5 c5)) rfl (cAddC p (1 + 14) bd5 A5 c5 ok5 (by omega) (0) (8)) ?_
 rintro t35 S35 ⟨d6, bd6, A6, c6, e6, ok6, rfl, rfl⟩
 refine AWL.allocOp rfl rfl (B rfl) rfl zc_3 (fun b9 => ?_)
 refine AWL.perm (List.perm_append_singleton _ _).symm ?_
 refine AWL.storeBox (i := 0) rfl rfl rfl ag_3 rfl (E rfl rfl) (E rfl rfl) rfl rfl nB (nl ?_)
 refine rs (yl ag_87 2 ?_)
 refine AWL.callE rfl rfl (B rfl) rfl ce_84 (E rfl rfl) (evsC (E rfl rfl) evs0) (F1 := [Ent.box b9 3 [zi (d6)], Ent.box b8 3 [zi (d5)], Ent.box b3 87 [.v (.pointer (some ⟨p, 0, none⟩))], Ent.box b2 93 (([.string ⟨#[]⟩, .int .i64 0, .int .i64 0, .int .i64 0, .slice none 0 0] : List Value).map T.v), Ent.box b1 3 [zi (1)]]) (S1 := (BdE p bd6 A6 c6)) rfl (cLabel p (1 + 18) bd6 A6 c6 ok6 (by omega) ) ?_
 rintro t37 S37 ⟨d7, bd7, A7, c7, e7, ok7, rfl, rfl⟩
 refine ya ?_
 refine AW.seq ?_
 refine rs ?_
 refine AWL.buildSlice1 rfl rfl (B rfl) rfl el_161 rfl (evsC (E rfl rfl) (evsC (E rfl rfl) (evsC (E rfl rfl) evs0))) nB rfl rfl ?_
 refine Y1 (Yv.lenSl rfl so_161 (B rfl) eV len3) ?_
 refine ym (nl ?_)
 refine AW.block ?_
 refine AW.loop4 (fun (k : Nat) (lb : Bd) (lA : Option Addr) (lc : Nat) => [(0, true, zi (1)), (1, true, pv b1), (2, true, pv b2), (3, true, pv b3), (4, true, zi (0)), (5, true, zi (d1)), (6, true, zi (d3)), (7, true, zi (d4)), (8, true, pv b8), (9, true, pv b9), (10, true, zi (d7)), (38, true, .sl 1 (([1, 5, 6] : List Int).map zi)), (39, true, zi (3)), (40, true, zi (k : Int))]) (fun (k : Nat) (lb : Bd) (lA : Option Addr) (lc : Nat) => ([Ent.box b9 3 [zi (d6)], Ent.box b8 3 [zi (d5)], Ent.box b3 87 [.v (.pointer (some ⟨p, 0, none⟩))], Ent.box b2 93 (([.string ⟨#[]⟩, .int .i64 0, .int .i64 0, .int .i64 0, .slice none 0 0] : List Value).map T.v), Ent.box b1 3 [zi (1)]] ++ BdE p lb lA lc)) (fun (k : Nat) (lb : Bd) (lA : Option Addr) (lc : Nat) => stepN (fun k => mIfC (1) (d3) ((([1, 5, 6] : List Int).getD k 0)) (d7)) k bd7 = ((), lb) ∧ BdOk ((1 + 19) + 3 * k) lb ∧ k ≤ 3) (fun (k : Nat) (lb : Bd) (lA : Option Addr) (lc : Nat) => 3 - k) 0 bd7 A7 c7 ?_ ?_ ?_ ?_
 ·exact ⟨rfl, ok7.mono (by omega), by omega⟩
 ·exact (su (su (su (su (su (su (su (su (su (su (su (su (su (su sn))))))))))))))
 ·rfl
 intro k lb lA lc ⟨hst, okL, hle⟩
 refine rs (Y1 (Yv.lss rfl eV eV) (nl ?_))
 refine AW.seq ?_
 refine AW.cond rfl (fun h0t => ?_) (fun h0f => ?_)
 ·try replace h0t := odt h0t
  have hk : k < 3 := by omega
  refine AW.skip ?_
  refine AW.seq ?_
  refine AW.block ?_
  refine rs (Y1 (Yv.indexSl rfl ss_161 (B rfl) eV eV (fun hg => ⟨rfl, (by first | omega | (simp only [len4, len3, List.length_map, List.length_cons, List.length_nil]; omega))⟩)) ?_)
  refine Y1 (Yv.loadRp rfl ag_2 eV (fun hg => lit_at (l := [1, 5, 6]) (by show k < 3; omega))) ?_
  refine ya ?_
  refine AW.region ?_
  refine yl ag_87 2 ?_
  refine ym ?_
  refine ym ?_
  refine ym ?_
  refine AWL.callE rfl rfl (B rfl) rfl ce_107 (E rfl rfl) (evsC (E rfl rfl) (evsC (E rfl rfl) (evsC (E rfl rfl) (evsC (E rfl rfl) (evsC (E rfl rfl) evs0))))) (F1 := [Ent.box b9 3 [zi (d6)], Ent.box b8 3 [zi (d5)], Ent.box b3 87 [.v (.pointer (some ⟨p, 0, none⟩))], Ent.box b2 93 (([.string ⟨#[]⟩, .int .i64 0, .int .i64 0, .int .i64 0, .slice none 0 0] : List Value).map T.v), Ent.box b1 3 [zi (1)]]) (S1 := (BdE p lb lA lc)) rfl (cIfC p ((1 + 19) + 3 * k) lb lA lc okL (by omega) (1) (d3) ((([1, 5, 6] : List Int).getD k 0)) (d7)) ?_
  rintro t48 S48 ⟨d8, bd8, A8, c8, e8, ok8, rfl, rfl⟩
  refine nl ?_
  refine AW.region ?_
  refine Y1 (Yv.addN_i64 rfl eV eV (fun hg => by omega)) ?_
  refine ym (nl ?_)
  refine ⟨k + 1, bd8, A8, c8, ⟨stepN_succ hst (e8), ok8.mono (by omega), by omega⟩, by omega, (su (su (su (su (su (su (su (su (su (su (su (su (su (su sn)))))))))))))), rfl⟩
 try replace h0f := odf h0f
 obtain rfl : k = 3 := by omega
 refine AW.exit ?_
 refine rs (yl ag_87 2 ?_)
 refine AWL.callE rfl rfl (B rfl) rfl ce_84 (E rfl rfl) (evsC (E rfl rfl) evs0) (F1 := [Ent.box b9 3 [zi (d6)], Ent.box b8 3 [zi (d5)], Ent.box b3 87 [.v (.pointer (some ⟨p, 0, none⟩))], Ent.box b2 93 (([.string ⟨#[]⟩, .int .i64 0, .int .i64 0, .int .i64 0, .slice none 0 0] : List Value).map T.v), Ent.box b1 3 [zi (1)]]) (S1 := (BdE p lb lA lc)) rfl (cLabel p ((1 + 19) + 3 * 3) lb lA lc okL (by omega) ) ?_
 rintro t51 S51 ⟨d8, bd8, A8, c8, e8, ok8, rfl, rfl⟩
 refine ya ?_
 refine rs (yl ag_87 2 ?_)
 refine ym ?_
 refine ym ?_
 refine AWL.callE rfl rfl (B rfl) rfl ce_107 (E rfl rfl) (evsC (E rfl rfl) (evsC (E rfl rfl) (evsC (E rfl rfl) (evsC (E rfl rfl) (evsC (E rfl rfl) evs0))))) (F1 := [Ent.box b9 3 [zi (d6)], Ent.box b8 3 [zi (d5)], Ent.box b3 87 [.v (.pointer (some ⟨p, 0, none⟩))], Ent.box b2 93 (([.string ⟨#[]⟩, .int .i64 0, .int .i64 0, .int .i64 0, .slice none 0 0] : List Value).map T.v), Ent.box b1 3 [zi (1)]]) (S1 := (BdE p bd8 A8 c8)) rfl (cIfC p (((1 + 19) + 3 * 3) + 1) bd8 A8 c8 ok8 (by omega) (1) (d3) (8) (d8)) ?_
 rintro t55 S55 ⟨d9, bd9, A9, c9, e9, ok9, rfl, rfl⟩
 refine nl ?_
 refine rs (yl ag_87 2 ?_)
 refine yl ag_3 1 ?_
 refine AWL.callE rfl rfl (B rfl) rfl ce_52 (E rfl rfl) (evsC (E rfl rfl) (evsC (E rfl rfl) evs0)) (F1 := [Ent.box b9 3 [zi (d6)], Ent.box b8 3 [zi (d5)], Ent.box b3 87 [.v (.pointer (some ⟨p, 0, none⟩))], Ent.box b2 93 (([.string ⟨#[]⟩, .int .i64 0, .int .i64 0, .int .i64 0, .slice none 0 0] : List Value).map T.v), Ent.box b1 3 [zi (1)]]) (S1 := (BdE p bd9 A9 c9)) rfl (cRet p (((1 + 19) + 3 * 3) + 4) bd9 A9 c9 ok9 (by omega) (d5)) ?_
 rintro t58 S58 ⟨d10, bd10, A10, c10, e10, ok10, rfl, rfl⟩
 refine nl ?_
 refine rs (yl ag_87 2 ?_)
 refine ym ?_
 refine AWL.callE rfl rfl (B rfl) rfl ce_88 (E rfl rfl) (evsC (E rfl rfl) (evsC (E rfl rfl) evs0)) (F1 := [Ent.box b9 3 [zi (d6)], Ent.box b8 3 [zi (d5)], Ent.box b3 87 [.v (.pointer (some ⟨p, 0, none⟩))], Ent.box b2 93 (([.string ⟨#[]⟩, .int .i64 0, .int .i64 0, .int .i64 0, .slice none 0 0] : List Value).map T.v), Ent.box b1 3 [zi (1)]]) (S1 := (BdE p bd10 A10 c10)) rfl (cAt p (((1 + 19) + 3 * 3) + 5) bd10 A10 c10 ok10 (by omega) (d8)) ?_
 rintro t61 S61 ⟨d11, bd11, A11, c11, e11, ok11, rfl, rfl⟩
 refine nl ?_
 refine rs (yl ag_87 2 ?_)
 refine yl ag_3 0 ?_
 refine AWL.callE rfl rfl (B rfl) rfl ce_79 (E rfl rfl) (evsC (E rfl rfl) (evsC (E rfl rfl) (evsC (E rfl rfl) evs0))) (F1 := [Ent.box b9 3 [zi (d6)], Ent.box b8 3 [zi (d5)], Ent.box b3 87 [.v (.pointer (some ⟨p, 0, none⟩))], Ent.box b2 93 (([.string ⟨#[]⟩, .int .i64 0, .int .i64 0, .int .i64 0, .slice none 0 0] : List Value).map T.v), Ent.box b1 3 [zi (1)]]) (S1 := (BdE p bd11 A11 c11)) rfl (cIncr p (((1 + 19) + 3 * 3) + 6) bd11 A11 c11 ok11 (by omega) (d6) (8)) ?_
 rintro t64 S64 ⟨d12, bd12, A12, c12, e12, ok12, rfl, rfl⟩
 refine nl ?_
 refine rs (yl ag_87 2 ?_)
 refine ym ?_
 refine AWL.callE rfl rfl (B rfl) rfl ce_88 (E rfl rfl) (evsC (E rfl rfl) (evsC (E rfl rfl) evs0)) (F1 := [Ent.box b9 3 [zi (d6)], Ent.box b8 3 [zi (d5)], Ent.box b3 87 [.v (.pointer (some ⟨p, 0, none⟩))], Ent.box b2 93 (([.string ⟨#[]⟩, .int .i64 0, .int .i64 0, .int .i64 0, .slice none 0 0] : List Value).map T.v), Ent.box b1 3 [zi (1)]]) (S1 := (BdE p bd12 A12 c12)) rfl (cAt p (((1 + 19) + 3 * 3) + 9) bd12 A12 c12 ok12 (by omega) (d7)) ?_
 rintro t67 S67 ⟨d13, bd13, A13, c13, e13, ok13, rfl, rfl⟩
 refine nl ?_
 refine rs (yl ag_87 2 ?_)
 refine Y1 (Yv.makeFunc rfl evs0 rfl (evsC eV (evsC eV evs0)) rfl) ?_
 refine Y1 (Yv.makeFunc rfl evs0 rfl (evsC eV (evsC eV (evsC eV evs0))) rfl) ?_
 refine AWL.callAll rfl rfl (B rfl) rfl ce_96 (E rfl rfl) (evsC (E rfl rfl) (evsC (E rfl rfl) (evsC (E rfl rfl) (evsC (E rfl rfl) evs0)))) (cWhile p (((1 + 19) + 3 * 3) + 10) 8 0 bd13 A13 c13 ok13 (by omega) (5) 115 116 #[.pointer (some ⟨b9, 0, none⟩), .pointer (some ⟨b8, 0, none⟩)] #[.pointer (some ⟨b3, 0, none⟩), .pointer (some ⟨b9, 0, none⟩), .pointer (some ⟨b1, 0, none⟩)] [Ent.box b9 3 [zi (d6)], Ent.box b8 3 [zi (d5)], Ent.box b3 87 [.v (.pointer (some ⟨p, 0, none⟩))], Ent.box b2 93 (([.string ⟨#[]⟩, .int .i64 0, .int .i64 0, .int .i64 0, .slice none 0 0] : List Value).map T.v), Ent.box b1 3 [zi (1)]] (mScan1 (d6) (d5)) (mScan2 (d6)) ce_115 ce_116 (fun bd9 A9 c9 ok9 => cScan1 p _ bd9 A9 c9 ok9 (by omega) [Ent.box b9 3 [zi (d6)], Ent.box b8 3 [zi (d5)], Ent.box b3 87 [.v (.pointer (some ⟨p, 0, none⟩))], Ent.box b2 93 (([.string ⟨#[]⟩, .int .i64 0, .int .i64 0, .int .i64 0, .slice none 0 0] : List Value).map T.v), Ent.box b1 3 [zi (1)]] 0 b9 (d6) rfl 1 b8 (d5) rfl) (fun bd9 A9 c9 ok9 => cScan2 p _ bd9 A9 c9 ok9 (by omega) [Ent.box b9 3 [zi (d6)], Ent.box b8 3 [zi (d5)], Ent.box b3 87 [.v (.pointer (some ⟨p, 0, none⟩))], Ent.box b2 93 (([.string ⟨#[]⟩, .int .i64 0, .int .i64 0, .int .i64 0, .slice none 0 0] : List Value).map T.v), Ent.box b1 3 [zi (1)]] 2 b3 rfl 0 b9 (d6) rfl 4 b1 rfl)) ?_
 rintro t71 S71 ⟨rfl, bd14, A14, c14, e14, ok14, rfl⟩
 refine nl ?_
 refine rs (yl ag_87 2 ?_)
 refine yl ag_3 1 ?_
 refine AWL.callE rfl rfl (B rfl) rfl ce_52 (E rfl rfl) (evsC (E rfl rfl) (evsC (E rfl rfl) evs0)) (F1 := [Ent.box b9 3 [zi (d6)], Ent.box b8 3 [zi (d5)], Ent.box b3 87 [.v (.pointer (some ⟨p, 0, none⟩))], Ent.box b2 93 (([.string ⟨#[]⟩, .int .i64 0, .int .i64 0, .int .i64 0, .slice none 0 0] : List Value).map T.v), Ent.box b1 3 [zi (1)]]) (S1 := (BdE p bd14 A14 c14)) rfl (cRet p (((1 + 19) + 3 * 3) + 24) bd14 A14 c14 ok14 (by omega) (d5)) ?_
 rintro t74 S74 ⟨d15, bd15, A15, c15, e15, ok15, rfl, rfl⟩
 refine nl ?_
 refine rs (yl ag_87 2 ?_)
 refine AWL.callE rfl rfl (B rfl) rfl ce_35 (E rfl rfl) (evsC (E rfl rfl) evs0) (F1 := [Ent.box b9 3 [zi (d6)], Ent.box b8 3 [zi (d5)], Ent.box b3 87 [.v (.pointer (some ⟨p, 0, none⟩))], Ent.box b2 93 (([.string ⟨#[]⟩, .int .i64 0, .int .i64 0, .int .i64 0, .slice none 0 0] : List Value).map T.v), Ent.box b1 3 [zi (1)]]) (S1 := (BdE p bd15 A15 c15)) rfl (cDone p bd15 A15 c15) ?_
 rintro t76 S76 ⟨rfl, rfl⟩
 refine AWL.storeBox (i := 3) rfl rfl rfl ag_93 rfl (E rfl rfl) (E rfl rfl) rfl rfl nB (nl ?_)
 refine AW.ret (retI (.cellA (i := 3) rfl ag_93 rfl rfl rfl .nil) ?_)
 show _ = T.agg (fnCells (fnB (mScanFn (bd0 [103, 99, 46, 115, 99, 97, 110] 1)).2))
 rw [show mScanFn (bd0 [103, 99, 46, 115, 99, 97, 110] 1) = ((), bd15) from (bq e1).trans ((bq e2).trans ((bq e3).trans ((bq e4).trans ((bq e5).trans ((bq e6).trans ((bq e7).trans ((bq hst).trans ((bq e8).trans ((bq e9).trans ((bq e10).trans ((bq e11).trans ((bq e12).trans ((bq e13).trans ((bq e14).trans (e15)))))))))))))))]
 rfl

theorem cScanFn : ACalls Tryz.prog 63 [zi 1] [] (fun t S => t = .agg (fnCells fScanFn) ∧ S = []) := (cScanFn_).less fun t S' h => ⟨[], List.nil_sublist _, h, rfl⟩
def mCollectFn : BM Unit :=
 bnd (mCopy (0)) fun d1 =>
 bnd (mCell (8)) fun d2 =>
 bnd (mWhile (5) (mCollect1 (d2)) (mCollect2 (d2))) fun _ =>
 bnd (mCell (24)) fun d4 =>
 bnd (mCall ((1 + 8)) [d4]) fun d5 =>
 bnd (mSetCell (24) (d5)) fun _ =>
 bnd (stepN (fun k => bnd (mCell (((32 + (16 * (k : Int))) + 8))) fun d7 =>
 bnd (mCall ((1 + 8)) [d7]) fun d8 =>
 mSetCell (((32 + (16 * (k : Int))) + 8)) (d8)) 8) fun _ =>
 bnd (mCell (312)) fun d7 =>
 bnd (mWhile (5) (mCollect3 (d7)) (mCollect4 (d7))) fun _ =>
 bnd (mCell (312)) fun d9 =>
 bnd (mSetCell (320) (d9)) fun _ =>
 bnd (mWhile (5) (mCollect5 (d1)) (mCollect6 (d1))) fun _ =>
 mRetC (1)
def fCollectFn : Fn := fnB (mCollectFn (bd0 [103, 99, 46, 99, 111, 108, 108, 101, 99, 116] 1)).2
set_option maxHeartbeats 16000000 in
theorem cCollectFn_  :
    ACalls Tryz.prog 64 [zi 1] [] (fun t S => t = .agg (fnCells (fCollectFn))) := by
 refine ACalls.intro Tryz.func64 rfl Tryz.ntmps64 nB rfl fun X w0 => ?_
 refine rs ?_
 refine AWL.boxOp rfl rfl (B rfl) rfl (E rfl rfl) rfl (fun b1 => ?_)
 refine AWL.perm (List.perm_append_singleton _ _).symm ?_
 refine AWL.allocOp rfl rfl (B rfl) rfl zc_93 (fun b2 => ?_)
 refine AWL.perm (List.perm_append_singleton _ _).symm (nl ?_)
 refine rs ?_
 refine AWL.callE rfl rfl (B rfl) rfl ce_32 (E rfl rfl) (evsC (E rfl rfl) (evsC (E rfl rfl) evs0)) (F1 := [Ent.box b2 93 (([.string ⟨#[]⟩, .int .i64 0, .int .i64 0, .int .i64 0, .slice none 0 0] : List Value).map T.v), Ent.box b1 3 [zi (1)]]) (S1 := []) rfl (cNew [103, 99, 46, 99, 111, 108, 108, 101, 99, 116] 1) ?_
 rintro t8 S8 ⟨p, rfl, rfl⟩
 have ok0 : BdOk 1 (bd0 [103, 99, 46, 99, 111, 108, 108, 101, 99, 116] 1) := ⟨by decide, by decide, by decide, by decide, by decide, by decide, by decide⟩
 refine AWL.allocOp rfl rfl (B rfl) rfl zc_87 (fun b3 => ?_)
 refine AWL.perm (List.perm_append_singleton _ _).symm ?_
 refine AWL.storeBox (i := 0) rfl rfl rfl ag_87 rfl (E rfl rfl) (E rfl rfl) rfl rfl nB (nl ?_)
 refine rs (yl ag_87 0 ?_)
 refine AWL.callE rfl rfl (B rfl) rfl ce_117 (E rfl rfl) (evsC (E rfl rfl) (evsC (E rfl rfl) evs0)) (F1 := [Ent.box b3 87 [.v (.pointer (some ⟨p, 0, none⟩))], Ent.box b2 93 (([.string ⟨#[]⟩, .int .i64 0, .int .i64 0, .int .i64 0, .slice none 0 0] : List Value).map T.v), Ent.box b1 3 [zi (1)]]) (S1 := (BdE p (bd0 [103, 99, 46, 99, 111, 108, 108, 101, 99, 116] 1) none 0)) rfl (cCopy p 1 (bd0 [103, 99, 46, 99, 111, 108, 108, 101, 99, 116] 1) none 0 ok0 (by omega) (0)) ?_
 rintro t10 S10 ⟨d1, bd1, A1, c1, e1, ok1, rfl, rfl⟩
 refine AWL.allocOp rfl rfl (B rfl) rfl zc_3 (fun b4 => ?_)
 refine AWL.perm (List.perm_append_singleton _ _).symm ?_
 refine AWL.storeBox (i := 0) rfl rfl rfl ag_3 rfl (E rfl rfl) (E rfl rfl) rfl rfl nB (nl ?_)
 refine rs (yl ag_87 1 ?_)
 refine AWL.callE rfl rfl (B rfl) rfl ce_87 (E rfl rfl) (evsC (E rfl rfl) (evsC (E rfl rfl) evs0)) (F1 := [Ent.box b4 3 [zi (d1)], Ent.box b3 87 [.v (.pointer (some ⟨p, 0, none⟩))], Ent.box b2 93 (([.string ⟨#[]⟩, .int .i64 0, .int .i64 0, .int .i64 0, .slice none 0 0] : List Value).map T.v), Ent.box b1 3 [zi (1)]]) (S1 := (BdE p bd1 A1 c1)) rfl (cCell p (1 + 2) bd1 A1 c1 ok1 (by omega) (8)) ?_
 rintro t12 S12 ⟨d2, bd2, A2, c2, e2, ok2, rfl, rfl⟩
 refine AWL.allocOp rfl rfl (B rfl) rfl zc_3 (fun b5 => ?_)
 refine AWL.perm (List.perm_append_singleton _ _).symm ?_
 refine AWL.storeBox (i := 0) rfl rfl rfl ag_3 rfl (E rfl rfl) (E rfl rfl) rfl rfl nB (nl ?_)
 refine rs (yl ag_87 2 ?_)
 refine Y1 (Yv.makeFunc rfl evs0 rfl (evsC eV (evsC eV evs0)) rfl) ?_
 refine Y1 (Yv.makeFunc rfl evs0 rfl (evsC eV (evsC eV (evsC eV evs0))) rfl) ?_
 refine AWL.callAll rfl rfl (B rfl) rfl ce_96 (E rfl rfl) (evsC (E rfl rfl) (evsC (E rfl rfl) (evsC (E rfl rfl) (evsC (E rfl rfl) evs0)))) (cWhile p (1 + 6) 8 4 bd2 A2 c2 ok2 (by omega) (5) 118 119 #[.pointer (some ⟨b5, 0, none⟩), .pointer (some ⟨b3, 0, none⟩)] #[.pointer (some ⟨b3, 0, none⟩), .pointer (some ⟨b5, 0, none⟩), .pointer (some ⟨b1, 0, none⟩)] [Ent.box b5 3 [zi (d2)], Ent.box b4 3 [zi (d1)], Ent.box b3 87 [.v (.pointer (some ⟨p, 0, none⟩))], Ent.box b2 93 (([.string ⟨#[]⟩, .int .i64 0, .int .i64 0, .int .i64 0, .slice none 0 0] : List Value).map T.v), Ent.box b1 3 [zi (1)]] (mCollect1 (d2)) (mCollect2 (d2)) ce_118 ce_119 (fun bd9 A9 c9 ok9 => cCollect1 p _ bd9 A9 c9 ok9 (by omega) [Ent.box b5 3 [zi (d2)], Ent.box b4 3 [zi (d1)], Ent.box b3 87 [.v (.pointer (some ⟨p, 0, none⟩))], Ent.box b2 93 (([.string ⟨#[]⟩, .int .i64 0, .int .i64 0, .int .i64 0, .slice none 0 0] : List Value).map T.v), Ent.box b1 3 [zi (1)]] 0 b5 (d2) rfl 2 b3 rfl) (fun bd9 A9 c9 ok9 => cCollect2 p _ bd9 A9 c9 ok9 (by omega) [Ent.box b5 3 [zi (d2)], Ent.box b4 3 [zi (d1)], Ent.box b3 87 [.v (.pointer (some ⟨p, 0, none⟩))], Ent.box b2 93 (([.string ⟨#[]⟩, .int .i64 0, .int .i64 0, .int .i64 0, .slice none 0 0] : List Value).map T.v), Ent.box b1 3 [zi (1)]] 2 b3 rfl 0 b5 (d2) rfl 4 b1 rfl)) ?_
 rintro t16 S16 ⟨rfl, bd3, A3, c3, e3, ok3, rfl⟩
 refine nl ?_
 refine AW.rseqH (HeldCs [(b5, 0, Value.int .i64 (d2)), (b4, 0, Value.int .i64 (d1)), (b3, 0, Value.pointer (some ⟨p, 0, none⟩)), (b1, 0, Value.int .i64 (1))]) rfl (tells_cs (tcB 0 rfl rfl pinV (tcB 1 rfl rfl pinV (tcB 2 rfl rfl pinV (tcB 4 rfl rfl pinV (tc0)))))) ?_
 refine T2 (i := 0) rfl (heldB 2 rfl ag_87 (E rfl rfl) rfl (fun _ _ => .v _)) ?_
 refine T2 (i := 1) rfl (heldB 2 rfl ag_87 (E rfl rfl) rfl (fun _ _ => .v _)) ?_
 refine T2 (i := 2) rfl (heldB 3 rfl ag_3 (E rfl rfl) rfl (fun _ _ => .v _)) ?_
 refine T2 (i := 3) rfl (heldAll (freeAddI rfl (E rfl rfl) (E rfl rfl) (by first | decide | omega))) ?_
 refine AWH.one (i := 4) (by kernel_rfl) rfl ?_
 refine yl ag_87 2 ?_
 refine AWL.nil (kpH (tcB 0 rfl rfl pinV (tcB 1 rfl rfl pinV (tcB 2 rfl rfl pinV (tcB 4 rfl rfl pinV (tc0))))) ?_)
 refine AWH.one (i := 5) (by kernel_rfl) rfl ?_
 refine AWL.callE rfl rfl (B rfl) rfl ce_87 (E rfl rfl) (evsC (E rfl rfl) (evsC (E rfl rfl) evs0)) (F1 := [Ent.box b5 3 [zi (d2)], Ent.box b4 3 [zi (d1)], Ent.box b3 87 [.v (.pointer (some ⟨p, 0, none⟩))], Ent.box b2 93 (([.string ⟨#[]⟩, .int .i64 0, .int .i64 0, .int .i64 0, .slice none 0 0] : List Value).map T.v), Ent.box b1 3 [zi (1)]]) (S1 := (BdE p bd3 A3 c3)) rfl (cCell p (1 + 24) bd3 A3 c3 ok3 (by omega) (24)) ?_
 rintro t22 S22 ⟨d4, bd4, A4, c4, e4, ok4, rfl, rfl⟩
 refine AWL.nil (kpH (tcB 0 rfl rfl pinV (tcB 1 rfl rfl pinV (tcB 2 rfl rfl pinV (tcB 4 rfl rfl pinV (tc0))))) ?_)
 refine AWH.one (i := 6) (by kernel_rfl) rfl ?_
 refine AWL.buildSlice1 rfl rfl (B rfl) rfl el_35 rfl (evsC (E rfl rfl) evs0) nB rfl rfl ?_
 refine AWL.nil (kpH (tcB 0 rfl rfl pinV (tcB 1 rfl rfl pinV (tcB 2 rfl rfl pinV (tcB 4 rfl rfl pinV (tc0))))) ?_)
 refine AWH.one (i := 7) (by kernel_rfl) rfl ?_
 refine AWL.callE rfl rfl (B rfl) rfl ce_33 (E rfl rfl) (evsC (E rfl rfl) (evsC (E rfl rfl) (evsC (E rfl rfl) evs0))) (F1 := [Ent.box b5 3 [zi (d2)], Ent.box b4 3 [zi (d1)], Ent.box b3 87 [.v (.pointer (some ⟨p, 0, none⟩))], Ent.box b2 93 (([.string ⟨#[]⟩, .int .i64 0, .int .i64 0, .int .i64 0, .slice none 0 0] : List Value).map T.v), Ent.box b1 3 [zi (1)]]) (S1 := (BdE p bd4 A4 c4)) rfl (cCall p (1 + 28) bd4 A4 c4 ok4 (by omega) ((1 + 8)) [d4]) ?_
 rintro t24 S24 ⟨d5, bd5, A5, c5, e5, ok5, rfl, rfl⟩
 refine AWL.nil (kpH (tcB 0 rfl rfl pinV (tcB 1 rfl rfl pinV (tcB 2 rfl rfl pinV (tcB 4 rfl rfl pinV (tc0))))) ?_)
 refine AWH.one (i := 8) (by kernel_rfl) rfl ?_
 refine AWL.callE rfl rfl (B rfl) rfl ce_76 (E rfl rfl) (evsC (E rfl rfl) (evsC (E rfl rfl) (evsC (E rfl rfl) evs0))) (F1 := [Ent.box b5 3 [zi (d2)], Ent.box b4 3 [zi (d1)], Ent.box b3 87 [.v (.pointer (some ⟨p, 0, none⟩))], Ent.box b2 93 (([.string ⟨#[]⟩, .int .i64 0, .int .i64 0, .int .i64 0, .slice none 0 0] : List Value).map T.v), Ent.box b1 3 [zi (1)]]) (S1 := (BdE p bd5 A5 c5)) rfl (cSetCell p (1 + 30) bd5 A5 c5 ok5 (by omega) (24) (d5)) ?_
 rintro t25 S25 ⟨d6, bd6, A6, c6, e6, ok6, rfl, rfl⟩
 refine AWL.nil (kpH (tcB 0 rfl rfl pinV (tcB 1 rfl rfl pinV (tcB 2 rfl rfl pinV (tcB 4 rfl rfl pinV (tc0))))) ?_)
 refine AWH.done (by kernel_rfl) ?_
 refine AW.seq ?_
 refine ra ?_
 refine AW.block ?_
 refine AW.loop4 (fun (k : Nat) (lb : Bd) (lA : Option Addr) (lc : Nat) => [(0, true, zi (1)), (1, true, pv b1), (2, true, pv b2), (3, true, pv b3), (4, true, pv b4), (5, true, pv b5), (6, true, zi (k : Int))]) (fun (k : Nat) (lb : Bd) (lA : Option Addr) (lc : Nat) => ([Ent.box b5 3 [zi (d2)], Ent.box b4 3 [zi (d1)], Ent.box b3 87 [.v (.pointer (some ⟨p, 0, none⟩))], Ent.box b2 93 (([.string ⟨#[]⟩, .int .i64 0, .int .i64 0, .int .i64 0, .slice none 0 0] : List Value).map T.v), Ent.box b1 3 [zi (1)]] ++ BdE p lb lA lc)) (fun (k : Nat) (lb : Bd) (lA : Option Addr) (lc : Nat) => stepN (fun k => bnd (mCell (((32 + (16 * (k : Int))) + 8))) fun d7 =>
  bnd (mCall ((1 + 8)) [d7]) fun d8 =>
  mSetCell (((32 + (16 * (k : Int))) + 8)) (d8)) k bd6 = ((), lb) ∧ BdOk ((1 + 33) + 9 * k) lb ∧ k ≤ 8) (fun (k : Nat) (lb : Bd) (lA : Option Addr) (lc : Nat) => 8 - k) 0 bd6 A6 c6 ?_ ?_ ?_ ?_
 ·exact ⟨rfl, ok6.mono (by omega), by omega⟩
 ·exact (su (su (su (su (su (su (su sn)))))))
 ·rfl
 intro k lb lA lc ⟨hst, okL, hle⟩
 refine AW.seq ?_
 refine rs (ym ?_)
 refine Y1 (Yv.lss rfl eV eV) (nl ?_)
 refine AW.cond rfl (fun h0t => ?_) (fun h0f => ?_)
 ·try replace h0t := odt h0t
  have hk : k < 8 := by omega
  refine AW.skip ?_
  refine AW.seq ?_
  refine AW.block ?_
  refine AW.regionH (HeldCs [(b5, 0, Value.int .i64 (d2)), (b4, 0, Value.int .i64 (d1)), (b3, 0, Value.pointer (some ⟨p, 0, none⟩)), (b1, 0, Value.int .i64 (1))]) rfl (tells_cs (tcB 0 rfl rfl pinV (tcB 1 rfl rfl pinV (tcB 2 rfl rfl pinV (tcB 4 rfl rfl pinV (tc0)))))) ?_
  refine T2 (i := 0) rfl (heldB 2 rfl ag_87 (E rfl rfl) rfl (fun _ _ => .v _)) ?_
  refine T2 (i := 1) rfl (heldAll (freeMove rfl (E rfl rfl))) ?_
  refine T2 (i := 2) rfl (heldAll (freeMulI rfl (E rfl rfl) (E rfl rfl) (by first | decide | omega))) ?_
  refine T2 (i := 3) rfl (heldAll (freeAddI rfl (E rfl rfl) (E rfl rfl) (by first | decide | omega))) ?_
  refine T2 (i := 4) rfl (heldAll (freeAddI rfl (E rfl rfl) (E rfl rfl) (by first | decide | omega))) ?_
  refine T2 (i := 5) rfl (heldB 2 rfl ag_87 (E rfl rfl) rfl (fun _ _ => .v _)) ?_
  refine T2 (i := 6) rfl (heldB 3 rfl ag_3 (E rfl rfl) rfl (fun _ _ => .v _)) ?_
  refine T2 (i := 7) rfl (heldAll (freeAddI rfl (E rfl rfl) (E rfl rfl) (by first | decide | omega))) ?_
  refine T2 (i := 8) rfl (heldB 2 rfl ag_87 (E rfl rfl) rfl (fun _ _ => .v _)) ?_
  refine AWH.one (i := 9) (by kernel_rfl) rfl ?_
  refine ym ?_
  refine AWL.nil (kpH (tcB 0 rfl rfl pinV (tcB 1 rfl rfl pinV (tcB 2 rfl rfl pinV (tcB 4 rfl rfl pinV (tc0))))) ?_)
  refine AWH.one (i := 10) (by kernel_rfl) rfl ?_
  refine Y1 (Yv.mulN_i64 rfl eV eV (fun hg => by omega)) ?_
  refine AWL.nil (kpH (tcB 0 rfl rfl pinV (tcB 1 rfl rfl pinV (tcB 2 rfl rfl pinV (tcB 4 rfl rfl pinV (tc0))))) ?_)
  refine AWH.one (i := 11) (by kernel_rfl) rfl ?_
  refine Y1 (Yv.addN_i64 rfl eV eV (fun hg => by omega)) ?_
  refine AWL.nil (kpH (tcB 0 rfl rfl pinV (tcB 1 rfl rfl pinV (tcB 2 rfl rfl pinV (tcB 4 rfl rfl pinV (tc0))))) ?_)
  refine AWH.one (i := 12) (by kernel_rfl) rfl ?_
  refine Y1 (Yv.addN_i64 rfl eV eV (fun hg => by omega)) ?_
  refine AWL.nil (kpH (tcB 0 rfl rfl pinV (tcB 1 rfl rfl pinV (tcB 2 rfl rfl pinV (tcB 4 rfl rfl pinV (tc0))))) ?_)
  refine AWH.one (i := 13) (by kernel_rfl) rfl ?_
  refine AWL.callE rfl rfl (B rfl) rfl ce_87 (E rfl rfl) (evsC (E rfl rfl) (evsC (E rfl rfl) evs0)) (F1 := [Ent.box b5 3 [zi (d2)], Ent.box b4 3 [zi (d1)], Ent.box b3 87 [.v (.pointer (some ⟨p, 0, none⟩))], Ent.box b2 93 (([.string ⟨#[]⟩, .int .i64 0, .int .i64 0, .int .i64 0, .slice none 0 0] : List Value).map T.v), Ent.box b1 3 [zi (1)]]) (S1 := (BdE p lb lA lc)) rfl (cCell p ((1 + 33) + 9 * k) lb lA lc okL (by omega) (((32 + (16 * (k : Int))) + 8))) ?_
  rintro t43 S43 ⟨d7, bd7, A7, c7, e7, ok7, rfl, rfl⟩
  refine AWL.nil (kpH (tcB 0 rfl rfl pinV (tcB 1 rfl rfl pinV (tcB 2 rfl rfl pinV (tcB 4 rfl rfl pinV (tc0))))) ?_)
  refine AWH.one (i := 14) (by kernel_rfl) rfl ?_
  refine AWL.buildSlice1 rfl rfl (B rfl) rfl el_35 rfl (evsC (E rfl rfl) evs0) nB rfl rfl ?_
  refine AWL.nil (kpH (tcB 0 rfl rfl pinV (tcB 1 rfl rfl pinV (tcB 2 rfl rfl pinV (tcB 4 rfl rfl pinV (tc0))))) ?_)
  refine AWH.one (i := 15) (by kernel_rfl) rfl ?_
  refine AWL.callE rfl rfl (B rfl) rfl ce_33 (E rfl rfl) (evsC (E rfl rfl) (evsC (E rfl rfl) (evsC (E rfl rfl) evs0))) (F1 := [Ent.box b5 3 [zi (d2)], Ent.box b4 3 [zi (d1)], Ent.box b3 87 [.v (.pointer (some ⟨p, 0, none⟩))], Ent.box b2 93 (([.string ⟨#[]⟩, .int .i64 0, .int .i64 0, .int .i64 0, .slice none 0 0] : List Value).map T.v), Ent.box b1 3 [zi (1)]]) (S1 := (BdE p bd7 A7 c7)) rfl (cCall p (((1 + 33) + 9 * k) + 4) bd7 A7 c7 ok7 (by omega) ((1 + 8)) [d7]) ?_
  rintro t45 S45 ⟨d8, bd8, A8, c8, e8, ok8, rfl, rfl⟩
  refine AWL.nil (kpH (tcB 0 rfl rfl pinV (tcB 1 rfl rfl pinV (tcB 2 rfl rfl pinV (tcB 4 rfl rfl pinV (tc0))))) ?_)
  refine AWH.one (i := 16) (by kernel_rfl) rfl ?_
  refine AWL.callE rfl rfl (B rfl) rfl ce_76 (E rfl rfl) (evsC (E rfl rfl) (evsC (E rfl rfl) (evsC (E rfl rfl) evs0))) (F1 := [Ent.box b5 3 [zi (d2)], Ent.box b4 3 [zi (d1)], Ent.box b3 87 [.v (.pointer (some ⟨p, 0, none⟩))], Ent.box b2 93 (([.string ⟨#[]⟩, .int .i64 0, .int .i64 0, .int .i64 0, .slice none 0 0] : List Value).map T.v), Ent.box b1 3 [zi (1)]]) (S1 := (BdE p bd8 A8 c8)) rfl (cSetCell p (((1 + 33) + 9 * k) + 6) bd8 A8 c8 ok8 (by omega) (((32 + (16 * (k : Int))) + 8)) (d8)) ?_
  rintro t46 S46 ⟨d9, bd9, A9, c9, e9, ok9, rfl, rfl⟩
  refine AWL.nil (kpH (tcB 0 rfl rfl pinV (tcB 1 rfl rfl pinV (tcB 2 rfl rfl pinV (tcB 4 rfl rfl pinV (tc0))))) ?_)
  refine AWH.done (by kernel_rfl) ?_
  refine AW.region ?_
  refine ym ?_
  refine Y1 (Yv.addN_i64 rfl eV eV (fun hg => by omega)) ?_
  refine ya ?_
  refine ⟨k + 1, bd9, A9, c9, ⟨stepN_succ hst ((bq e7).trans ((bq e8).trans (e9))), ok9.mono (by omega), by omega⟩, by omega, (su (su (su (su (su (su (su sn))))))), rfl⟩
 try replace h0f := odf h0f
 obtain rfl : k = 8 := by omega
 refine AW.exit ?_
 refine rs (yl ag_87 2 ?_)
 refine AWL.callE rfl rfl (B rfl) rfl ce_87 (E rfl rfl) (evsC (E rfl rfl) (evsC (E rfl rfl) evs0)) (F1 := [Ent.box b5 3 [zi (d2)], Ent.box b4 3 [zi (d1)], Ent.box b3 87 [.v (.pointer (some ⟨p, 0, none⟩))], Ent.box b2 93 (([.string ⟨#[]⟩, .int .i64 0, .int .i64 0, .int .i64 0, .slice none 0 0] : List Value).map T.v), Ent.box b1 3 [zi (1)]]) (S1 := (BdE p lb lA lc)) rfl (cCell p ((1 + 33) + 9 * 8) lb lA lc okL (by omega) (312)) ?_
 rintro t48 S48 ⟨d7, bd7, A7, c7, e7, ok7, rfl, rfl⟩
 refine AWL.allocOp rfl rfl (B rfl) rfl zc_3 (fun b7 => ?_)
 refine AWL.perm (List.perm_append_singleton _ _).symm ?_
 refine AWL.storeBox (i := 0) rfl rfl rfl ag_3 rfl (E rfl rfl) (E rfl rfl) rfl rfl nB (nl ?_)
 refine rs (yl ag_87 3 ?_)
 refine Y1 (Yv.makeFunc rfl evs0 rfl (evsC eV (evsC eV evs0)) rfl) ?_
 refine Y1 (Yv.makeFunc rfl evs0 rfl (evsC eV (evsC eV (evsC eV evs0))) rfl) ?_
 refine AWL.callAll rfl rfl (B rfl) rfl ce_96 (E rfl rfl) (evsC (E rfl rfl) (evsC (E rfl rfl) (evsC (E rfl rfl) (evsC (E rfl rfl) evs0)))) (cWhile p (((1 + 33) + 9 * 8) + 4) 14 4 bd7 A7 c7 ok7 (by omega) (5) 120 121 #[.pointer (some ⟨b7, 0, none⟩), .pointer (some ⟨b3, 0, none⟩)] #[.pointer (some ⟨b3, 0, none⟩), .pointer (some ⟨b7, 0, none⟩), .pointer (some ⟨b1, 0, none⟩)] [Ent.box b7 3 [zi (d7)], Ent.box b5 3 [zi (d2)], Ent.box b4 3 [zi (d1)], Ent.box b3 87 [.v (.pointer (some ⟨p, 0, none⟩))], Ent.box b2 93 (([.string ⟨#[]⟩, .int .i64 0, .int .i64 0, .int .i64 0, .slice none 0 0] : List Value).map T.v), Ent.box b1 3 [zi (1)]] (mCollect3 (d7)) (mCollect4 (d7)) ce_120 ce_121 (fun bd9 A9 c9 ok9 => cCollect3 p _ bd9 A9 c9 ok9 (by omega) [Ent.box b7 3 [zi (d7)], Ent.box b5 3 [zi (d2)], Ent.box b4 3 [zi (d1)], Ent.box b3 87 [.v (.pointer (some ⟨p, 0, none⟩))], Ent.box b2 93 (([.string ⟨#[]⟩, .int .i64 0, .int .i64 0, .int .i64 0, .slice none 0 0] : List Value).map T.v), Ent.box b1 3 [zi (1)]] 0 b7 (d7) rfl 3 b3 rfl) (fun bd9 A9 c9 ok9 => cCollect4 p _ bd9 A9 c9 ok9 (by omega) [Ent.box b7 3 [zi (d7)], Ent.box b5 3 [zi (d2)], Ent.box b4 3 [zi (d1)], Ent.box b3 87 [.v (.pointer (some ⟨p, 0, none⟩))], Ent.box b2 93 (([.string ⟨#[]⟩, .int .i64 0, .int .i64 0, .int .i64 0, .slice none 0 0] : List Value).map T.v), Ent.box b1 3 [zi (1)]] 3 b3 rfl 0 b7 (d7) rfl 5 b1 rfl)) ?_
 rintro t52 S52 ⟨rfl, bd8, A8, c8, e8, ok8, rfl⟩
 refine nl ?_
 refine AW.rseqH (HeldCs [(b7, 0, Value.int .i64 (d7)), (b5, 0, Value.int .i64 (d2)), (b4, 0, Value.int .i64 (d1)), (b3, 0, Value.pointer (some ⟨p, 0, none⟩)), (b1, 0, Value.int .i64 (1))]) rfl (tells_cs (tcB 0 rfl rfl pinV (tcB 1 rfl rfl pinV (tcB 2 rfl rfl pinV (tcB 3 rfl rfl pinV (tcB 5 rfl rfl pinV (tc0))))))) ?_
 refine T2 (i := 0) rfl (heldB 3 rfl ag_87 (E rfl rfl) rfl (fun _ _ => .v _)) ?_
 refine AWH.one (i := 1) (by kernel_rfl) rfl ?_
 refine yl ag_87 3 ?_
 refine AWL.nil (kpH (tcB 0 rfl rfl pinV (tcB 1 rfl rfl pinV (tcB 2 rfl rfl pinV (tcB 3 rfl rfl pinV (tcB 5 rfl rfl pinV (tc0)))))) ?_)
 refine AWH.one (i := 2) (by kernel_rfl) rfl ?_
 refine AWL.callE rfl rfl (B rfl) rfl ce_87 (E rfl rfl) (evsC (E rfl rfl) (evsC (E rfl rfl) evs0)) (F1 := [Ent.box b7 3 [zi (d7)], Ent.box b5 3 [zi (d2)], Ent.box b4 3 [zi (d1)], Ent.box b3 87 [.v (.pointer (some ⟨p, 0, none⟩))], Ent.box b2 93 (([.string ⟨#[]⟩, .int .i64 0, .int .i64 0, .int .i64 0, .slice none 0 0] : List Value).map T.v), Ent.box b1 3 [zi (1)]]) (S1 := (BdE p bd8 A8 c8)) rfl (cCell p (((1 + 33) + 9 * 8) + 28) bd8 A8 c8 ok8 (by omega) (312)) ?_
 rintro t55 S55 ⟨d9, bd9, A9, c9, e9, ok9, rfl, rfl⟩
 refine AWL.nil (kpH (tcB 0 rfl rfl pinV (tcB 1 rfl rfl pinV (tcB 2 rfl rfl pinV (tcB 3 rfl rfl pinV (tcB 5 rfl rfl pinV (tc0)))))) ?_)
 refine AWH.one (i := 3) (by kernel_rfl) rfl ?_
 refine AWL.callE rfl rfl (B rfl) rfl ce_76 (E rfl rfl) (evsC (E rfl rfl) (evsC (E rfl rfl) (evsC (E rfl rfl) evs0))) (F1 := [Ent.box b7 3 [zi (d7)], Ent.box b5 3 [zi (d2)], Ent.box b4 3 [zi (d1)], Ent.box b3 87 [.v (.pointer (some ⟨p, 0, none⟩))], Ent.box b2 93 (([.string ⟨#[]⟩, .int .i64 0, .int .i64 0, .int .i64 0, .slice none 0 0] : List Value).map T.v), Ent.box b1 3 [zi (1)]]) (S1 := (BdE p bd9 A9 c9)) rfl (cSetCell p (((1 + 33) + 9 * 8) + 32) bd9 A9 c9 ok9 (by omega) (320) (d9)) ?_
 rintro t56 S56 ⟨d10, bd10, A10, c10, e10, ok10, rfl, rfl⟩
 refine AWL.nil (kpH (tcB 0 rfl rfl pinV (tcB 1 rfl rfl pinV (tcB 2 rfl rfl pinV (tcB 3 rfl rfl pinV (tcB 5 rfl rfl pinV (tc0)))))) ?_)
 refine AWH.done (by kernel_rfl) ?_
 refine rs (yl ag_87 3 ?_)
 refine Y1 (Yv.makeFunc rfl evs0 rfl (evsC eV (evsC eV evs0)) rfl) ?_
 refine Y1 (Yv.makeFunc rfl evs0 rfl (evsC eV (evsC eV (evsC eV evs0))) rfl) ?_
 refine AWL.callAll rfl rfl (B rfl) rfl ce_96 (E rfl rfl) (evsC (E rfl rfl) (evsC (E rfl rfl) (evsC (E rfl rfl) (evsC (E rfl rfl) evs0)))) (cWhile p (((1 + 33) + 9 * 8) + 35) 3 4 bd10 A10 c10 ok10 (by omega) (5) 122 123 #[.pointer (some ⟨b4, 0, none⟩), .pointer (some ⟨b3, 0, none⟩)] #[.pointer (some ⟨b3, 0, none⟩), .pointer (some ⟨b4, 0, none⟩), .pointer (some ⟨b1, 0, none⟩)] [Ent.box b7 3 [zi (d7)], Ent.box b5 3 [zi (d2)], Ent.box b4 3 [zi (d1)], Ent.box b3 87 [.v (.pointer (some ⟨p, 0, none⟩))], Ent.box b2 93 (([.string ⟨#[]⟩, .int .i64 0, .int .i64 0, .int .i64 0, .slice none 0 0] : List Value).map T.v), Ent.box b1 3 [zi (1)]] (mCollect5 (d1)) (mCollect6 (d1)) ce_122 ce_123 (fun bd9 A9 c9 ok9 => cCollect5 p _ bd9 A9 c9 ok9 (by omega) [Ent.box b7 3 [zi (d7)], Ent.box b5 3 [zi (d2)], Ent.box b4 3 [zi (d1)], Ent.box b3 87 [.v (.pointer (some ⟨p, 0, none⟩))], Ent.box b2 93 (([.string ⟨#[]⟩, .int .i64 0, .int .i64 0, .int .i64 0, .slice none 0 0] : List Value).map T.v), Ent.box b1 3 [zi (1)]] 2 b4 (d1) rfl 3 b3 rfl) (fun bd9 A9 c9 ok9 => cCollect6 p _ bd9 A9 c9 ok9 (by omega) [Ent.box b7 3 [zi (d7)], Ent.box b5 3 [zi (d2)], Ent.box b4 3 [zi (d1)], Ent.box b3 87 [.v (.pointer (some ⟨p, 0, none⟩))], Ent.box b2 93 (([.string ⟨#[]⟩, .int .i64 0, .int .i64 0, .int .i64 0, .slice none 0 0] : List Value).map T.v), Ent.box b1 3 [zi (1)]] 3 b3 rfl 2 b4 (d1) rfl 5 b1 rfl)) ?_
 rintro t60 S60 ⟨rfl, bd11, A11, c11, e11, ok11, rfl⟩
 refine nl ?_
 refine rs (yl ag_87 3 ?_)
 refine AWL.callE rfl rfl (B rfl) rfl ce_34 (E rfl rfl) (evsC (E rfl rfl) (evsC (E rfl rfl) evs0)) (F1 := [Ent.box b7 3 [zi (d7)], Ent.box b5 3 [zi (d2)], Ent.box b4 3 [zi (d1)], Ent.box b3 87 [.v (.pointer (some ⟨p, 0, none⟩))], Ent.box b2 93 (([.string ⟨#[]⟩, .int .i64 0, .int .i64 0, .int .i64 0, .slice none 0 0] : List Value).map T.v), Ent.box b1 3 [zi (1)]]) (S1 := (BdE p bd11 A11 c11)) rfl (cRetC p (((1 + 33) + 9 * 8) + 48) bd11 A11 c11 ok11 (by omega) (1)) ?_
 rintro t62 S62 ⟨d12, bd12, A12, c12, e12, ok12, rfl, rfl⟩
 refine nl ?_
 refine rs (yl ag_87 3 ?_)
 refine AWL.callE rfl rfl (B rfl) rfl ce_35 (E rfl rfl) (evsC (E rfl rfl) evs0) (F1 := [Ent.box b7 3 [zi (d7)], Ent.box b5 3 [zi (d2)], Ent.box b4 3 [zi (d1)], Ent.box b3 87 [.v (.pointer (some ⟨p, 0, none⟩))], Ent.box b2 93 (([.string ⟨#[]⟩, .int .i64 0, .int .i64 0, .int .i64 0, .slice none 0 0] : List Value).map T.v), Ent.box b1 3 [zi (1)]]) (S1 := (BdE p bd12 A12 c12)) rfl (cDone p bd12 A12 c12) ?_
 rintro t64 S64 ⟨rfl, rfl⟩
 refine AWL.storeBox (i := 4) rfl rfl rfl ag_93 rfl (E rfl rfl) (E rfl rfl) rfl rfl nB (nl ?_)
 refine AW.ret (retI (.cellA (i := 4) rfl ag_93 rfl rfl rfl .nil) ?_)
 show _ = T.agg (fnCells (fnB (mCollectFn (bd0 [103, 99, 46, 99, 111, 108, 108, 101, 99, 116] 1)).2))
 rw [show mCollectFn (bd0 [103, 99, 46, 99, 111, 108, 108, 101, 99, 116] 1) = ((), bd12) from (bq e1).trans ((bq e2).trans ((bq e3).trans ((bq e4).trans ((bq e5).trans ((bq e6).trans ((bq hst).trans ((bq e7).trans ((bq e8).trans ((bq e9).trans ((bq e10).trans ((bq e11).trans (e12))))))))))))]
 rfl

theorem cCollectFn : ACalls Tryz.prog 64 [zi 1] [] (fun t S => t = .agg (fnCells fCollectFn) ∧ S = []) := (cCollectFn_).less fun t S' h => ⟨[], List.nil_sublist _, h, rfl⟩
end Go.Proofs.YtpgbpdnmjeoeoaaGreat.B

namespace Go.Proofs.YtpgbpdnmjeoeoaaGreat.B
open Go Go.RowKit

def mFullFn : BM Unit :=
 bnd (stepN (fun k => bnd (mC ((xr k 8))) fun d1 =>
 mSetCell ((384 + (8 * (k : Int)))) (d1)) 2) fun _ =>
 bnd (mC (2)) fun d1 =>
 bnd (mData (384)) fun d2 =>
 bnd (mC (13)) fun d3 =>
 bnd (mSys (1) [d1, d2, d3]) fun d4 =>
 bnd (mC (137)) fun d5 =>
 bnd (mSys (60) [d5]) fun d6 =>
 mRetC (1)
def fFullFn : Fn := fnB (mFullFn (bd0 [103, 99, 46, 102, 117, 108, 108] 0)).2
set_option maxHeartbeats 16000000 in
theorem cFullFn_  :
    ACalls Tryz.prog 59 [] [] (fun t S => t = .agg (fnCells (fFullFn))) := by
 refine ACalls.intro Tryz.func59 rfl Tryz.ntmps59 nB rfl fun X w0 => ?_
 refine rs ?_
 refine AWL.allocOp rfl rfl (B rfl) rfl zc_93 (fun b0 => ?_)
 refine AWL.perm (List.perm_append_singleton _ _).symm (nl ?_)
 refine rs ?_
 refine AWL.callE rfl rfl (B rfl) rfl ce_32 (E rfl rfl) (evsC (E rfl rfl) (evsC (E rfl rfl) evs0)) (F1 := [Ent.box b0 93 (([.string ⟨#[]⟩, .int .i64 0, .int .i64 0, .int .i64 0, .slice none 0 0] : List Value).map T.v)]) (S1 := []) rfl (cNew [103, 99, 46, 102, 117, 108, 108] 0) ?_
 rintro t6 S6 ⟨p, rfl, rfl⟩
 have ok0 : BdOk 1 (bd0 [103, 99, 46, 102, 117, 108, 108] 0) := ⟨by decide, by decide, by decide, by decide, by decide, by decide, by decide⟩
 refine ya ?_
 refine ra ?_
 refine AW.seq ?_
 refine ra ?_
 refine AW.block ?_
 refine AW.loop4 (fun (k : Nat) (lb : Bd) (lA : Option Addr) (lc : Nat) => [(0, true, pv b0), (1, true, pv p), (2, true, sv [111, 117, 116, 32, 111, 102, 32, 109, 101, 109, 111, 114, 121, 0, 0, 0]), (3, true, zi (k : Int))]) (fun (k : Nat) (lb : Bd) (lA : Option Addr) (lc : Nat) => ([Ent.box b0 93 (([.string ⟨#[]⟩, .int .i64 0, .int .i64 0, .int .i64 0, .slice none 0 0] : List Value).map T.v)] ++ BdE p lb lA lc)) (fun (k : Nat) (lb : Bd) (lA : Option Addr) (lc : Nat) => stepN (fun k => bnd (mC ((xr k 8))) fun d1 =>
  mSetCell ((384 + (8 * (k : Int)))) (d1)) k (bd0 [103, 99, 46, 102, 117, 108, 108] 0) = ((), lb) ∧ BdOk (1 + 5 * k) lb ∧ k ≤ 2) (fun (k : Nat) (lb : Bd) (lA : Option Addr) (lc : Nat) => 2 - k) 0 ((bd0 [103, 99, 46, 102, 117, 108, 108] 0)) none 0 ?_ ?_ ?_ ?_
 ·exact ⟨rfl, ok0.mono (by omega), by omega⟩
 ·exact (su (su (su (su sn))))
 ·rfl
 intro k lb lA lc ⟨hst, okL, hle⟩
 refine AW.seq ?_
 refine rs (ym ?_)
 refine Y1 (Yv.lss rfl eV eV) (nl ?_)
 refine AW.cond rfl (fun h0t => ?_) (fun h0f => ?_)
 ·try replace h0t := odt h0t
  have hk : k < 2 := by omega
  refine AW.skip ?_
  refine AW.seq ?_
  refine AW.block ?_
  refine ra ?_
  refine AW.seq ?_
  refine ra ?_
  refine AW.block ?_
  refine AW.loop (fun (r : Nat) => [(0, true, pv b0), (1, true, pv p), (2, true, sv msgB), (3, true, zi (k : Int)), (4, true, zi (xr k r)), (5, true, zi (7 - (r : Int)))]) (fun (r : Nat) => ([Ent.box b0 93 (([.string ⟨#[]⟩, .int .i64 0, .int .i64 0, .int .i64 0, .slice none 0 0] : List Value).map T.v)] ++ BdE p lb lA lc)) (fun (r : Nat) => r ≤ 8) (fun (r : Nat) => 8 - r) 0 ?_ ?_ ?_ ?_
  ·exact Nat.zero_le _
  ·exact (su (su (su (su (su (su sn))))))
  ·rfl
  intro r hinv
  refine AW.seq ?_
  refine rs (ym ?_)
  refine Y1 (Yv.geq rfl eV eV) (nl ?_)
  refine AW.cond rfl (fun h1t => ?_) (fun h1f => ?_)
  ·try replace h1t := odt h1t
   have hr : r < 8 := by omega
   refine AW.skip ?_
   refine AW.seq ?_
   refine AW.block ?_
   refine AW.region ?_
   refine ym ?_
   refine Y1 (Yv.shlC 256 (by decide) (by decide) rfl (E rfl rfl) (E rfl rfl)) ?_
   refine ym ?_
   refine ym ?_
   refine Y1 (Yv.mulN_i64 rfl eV eV (fun hg => by omega)) ?_
   refine ym ?_
   refine Y1 (Yv.addN_i64 rfl eV eV (fun hg => by omega)) ?_
   refine Y1 (Yv.indexL rfl st_9 eV eV (j := 8 * k + (7 - r)) (fun hg => ⟨by omega, by show _ < 16; omega⟩)) ?_
   refine Y1 (Yv.convU8 rfl Tryz.underlying5 kd_2 rfl eV) ?_
   refine Y1 (Yv.bits rfl rfl eV eV) ?_
   refine ya ?_
   refine AW.region ?_
   refine ym ?_
   refine Y1 (Yv.subN_i64 rfl eV eV (fun hg => by omega)) ?_
   refine ya ?_
   exact ⟨r + 1, by omega, by omega, (su (su (su (su (su (Sub.cons rfl (congrArg zi (by omega)) Sub.nil)))))), rfl⟩
  try replace h1f := odf h1f
  obtain rfl : r = 8 := by omega
  refine AW.exit ?_
  refine AW.region ?_
  refine ym ?_
  refine ym ?_
  refine Y1 (Yv.mulN_i64 rfl eV eV (fun hg => by omega)) ?_
  refine Y1 (Yv.addN_i64 rfl eV eV (fun hg => by omega)) ?_
  refine ym ?_
  refine ym ?_
  refine AWL.callE rfl rfl (B rfl) rfl ce_53 (E rfl rfl) (evsC (E rfl rfl) (evsC (E rfl rfl) evs0)) (F1 := [Ent.box b0 93 (([.string ⟨#[]⟩, .int .i64 0, .int .i64 0, .int .i64 0, .slice none 0 0] : List Value).map T.v)]) (S1 := (BdE p lb lA lc)) rfl (cC p (1 + 5 * k) lb lA lc okL (by omega) ((xr k 8))) ?_
  rintro t31 S31 ⟨d1, bd1, A1, c1, e1, ok1, rfl, rfl⟩
  refine AWL.callE rfl rfl (B rfl) rfl ce_76 (E rfl rfl) (evsC (E rfl rfl) (evsC (E rfl rfl) (evsC (E rfl rfl) evs0))) (F1 := [Ent.box b0 93 (([.string ⟨#[]⟩, .int .i64 0, .int .i64 0, .int .i64 0, .slice none 0 0] : List Value).map T.v)]) (S1 := (BdE p bd1 A1 c1)) rfl (cSetCell p ((1 + 5 * k) + 2) bd1 A1 c1 ok1 (by omega) ((384 + (8 * (k : Int)))) (d1)) ?_
  rintro t32 S32 ⟨d2, bd2, A2, c2, e2, ok2, rfl, rfl⟩
  refine nl ?_
  refine AW.region ?_
  refine ym ?_
  refine Y1 (Yv.addN_i64 rfl eV eV (fun hg => by omega)) ?_
  refine ya ?_
  refine ⟨k + 1, bd2, A2, c2, ⟨stepN_succ hst ((bq e1).trans (e2)), ok2.mono (by omega), by omega⟩, by omega, (su (su (su (su sn)))), rfl⟩
 try replace h0f := odf h0f
 obtain rfl : k = 2 := by omega
 refine AW.exit ?_
 refine rs (ym ?_)
 refine ym ?_
 refine AWL.callE rfl rfl (B rfl) rfl ce_53 (E rfl rfl) (evsC (E rfl rfl) (evsC (E rfl rfl) evs0)) (F1 := [Ent.box b0 93 (([.string ⟨#[]⟩, .int .i64 0, .int .i64 0, .int .i64 0, .slice none 0 0] : List Value).map T.v)]) (S1 := (BdE p lb lA lc)) rfl (cC p (1 + 5 * 2) lb lA lc okL (by omega) (2)) ?_
 rintro t35 S35 ⟨d1, bd1, A1, c1, e1, ok1, rfl, rfl⟩
 refine ym ?_
 refine AWL.callE rfl rfl (B rfl) rfl ce_106 (E rfl rfl) (evsC (E rfl rfl) (evsC (E rfl rfl) evs0)) (F1 := [Ent.box b0 93 (([.string ⟨#[]⟩, .int .i64 0, .int .i64 0, .int .i64 0, .slice none 0 0] : List Value).map T.v)]) (S1 := (BdE p bd1 A1 c1)) rfl (cData p ((1 + 5 * 2) + 2) bd1 A1 c1 ok1 (by omega) (384)) ?_
 rintro t37 S37 ⟨d2, bd2, A2, c2, e2, ok2, rfl, rfl⟩
 refine ym ?_
 refine AWL.callE rfl rfl (B rfl) rfl ce_53 (E rfl rfl) (evsC (E rfl rfl) (evsC (E rfl rfl) evs0)) (F1 := [Ent.box b0 93 (([.string ⟨#[]⟩, .int .i64 0, .int .i64 0, .int .i64 0, .slice none 0 0] : List Value).map T.v)]) (S1 := (BdE p bd2 A2 c2)) rfl (cC p ((1 + 5 * 2) + 4) bd2 A2 c2 ok2 (by omega) (13)) ?_
 rintro t39 S39 ⟨d3, bd3, A3, c3, e3, ok3, rfl, rfl⟩
 refine AWL.buildSlice1 rfl rfl (B rfl) rfl el_35 rfl (evsC (E rfl rfl) (evsC (E rfl rfl) (evsC (E rfl rfl) evs0))) nB rfl rfl ?_
 refine AWL.callE rfl rfl (B rfl) rfl ce_105 (E rfl rfl) (evsC (E rfl rfl) (evsC (E rfl rfl) (evsC (E rfl rfl) evs0))) (F1 := [Ent.box b0 93 (([.string ⟨#[]⟩, .int .i64 0, .int .i64 0, .int .i64 0, .slice none 0 0] : List Value).map T.v)]) (S1 := (BdE p bd3 A3 c3)) rfl (cSys p ((1 + 5 * 2) + 6) bd3 A3 c3 ok3 (by omega) (1) [d1, d2, d3]) ?_
 rintro t41 S41 ⟨d4, bd4, A4, c4, e4, ok4, rfl, rfl⟩
 refine nl ?_
 refine rs (ym ?_)
 refine ym ?_
 refine AWL.callE rfl rfl (B rfl) rfl ce_53 (E rfl rfl) (evsC (E rfl rfl) (evsC (E rfl rfl) evs0)) (F1 := [Ent.box b0 93 (([.string ⟨#[]⟩, .int .i64 0, .int .i64 0, .int .i64 0, .slice none 0 0] : List Value).map T.v)]) (S1 := (BdE p bd4 A4 c4)) rfl (cC p ((1 + 5 * 2) + 8) bd4 A4 c4 ok4 (by omega) (137)) ?_
 rintro t44 S44 ⟨d5, bd5, A5, c5, e5, ok5, rfl, rfl⟩
 refine AWL.buildSlice1 rfl rfl (B rfl) rfl el_35 rfl (evsC (E rfl rfl) evs0) nB rfl rfl ?_
 refine AWL.callE rfl rfl (B rfl) rfl ce_105 (E rfl rfl) (evsC (E rfl rfl) (evsC (E rfl rfl) (evsC (E rfl rfl) evs0))) (F1 := [Ent.box b0 93 (([.string ⟨#[]⟩, .int .i64 0, .int .i64 0, .int .i64 0, .slice none 0 0] : List Value).map T.v)]) (S1 := (BdE p bd5 A5 c5)) rfl (cSys p ((1 + 5 * 2) + 10) bd5 A5 c5 ok5 (by omega) (60) [d5]) ?_
 rintro t46 S46 ⟨d6, bd6, A6, c6, e6, ok6, rfl, rfl⟩
 refine nl ?_
 refine rs (ym ?_)
 refine AWL.callE rfl rfl (B rfl) rfl ce_34 (E rfl rfl) (evsC (E rfl rfl) (evsC (E rfl rfl) evs0)) (F1 := [Ent.box b0 93 (([.string ⟨#[]⟩, .int .i64 0, .int .i64 0, .int .i64 0, .slice none 0 0] : List Value).map T.v)]) (S1 := (BdE p bd6 A6 c6)) rfl (cRetC p ((1 + 5 * 2) + 12) bd6 A6 c6 ok6 (by omega) (1)) ?_
 rintro t48 S48 ⟨d7, bd7, A7, c7, e7, ok7, rfl, rfl⟩
 refine nl ?_
 refine rs (ym ?_)
 refine AWL.callE rfl rfl (B rfl) rfl ce_35 (E rfl rfl) (evsC (E rfl rfl) evs0) (F1 := [Ent.box b0 93 (([.string ⟨#[]⟩, .int .i64 0, .int .i64 0, .int .i64 0, .slice none 0 0] : List Value).map T.v)]) (S1 := (BdE p bd7 A7 c7)) rfl (cDone p bd7 A7 c7) ?_
 rintro t50 S50 ⟨rfl, rfl⟩
 refine AWL.storeBox (i := 0) rfl rfl rfl ag_93 rfl (E rfl rfl) (E rfl rfl) rfl rfl nB (nl ?_)
 refine AW.ret (retI (.cellA (i := 0) rfl ag_93 rfl rfl rfl .nil) ?_)
 show _ = T.agg (fnCells (fnB (mFullFn (bd0 [103, 99, 46, 102, 117, 108, 108] 0)).2))
 rw [show mFullFn (bd0 [103, 99, 46, 102, 117, 108, 108] 0) = ((), bd7) from (bq hst).trans ((bq e1).trans ((bq e2).trans ((bq e3).trans ((bq e4).trans ((bq e5).trans ((bq e6).trans (e7)))))))]
 rfl

theorem cFullFn : ACalls Tryz.prog 59 [] [] (fun t S => t = .agg (fnCells fFullFn) ∧ S = []) := (cFullFn_).less fun t S' h => ⟨[], List.nil_sublist _, h, rfl⟩
def gcFns : List Fn := [fStartFn, fAllocFn, fMinorFn, fMajorFn, fMarkFn, fFullFn, fSizeFn, fCopiedFn, fForwardFn, fScanFn, fCollectFn]
set_option maxHeartbeats 4000000 in
theorem cFunctions  :
    ACalls Tryz.prog 36 [zi 1] [] (fun t S => t = .sl 5 (gcFns.flatMap fnCells) ∧ S = []) := by
 refine ACalls.intro Tryz.func36 rfl Tryz.ntmps36 nB rfl fun X w0 => ?_
 refine ra ?_
 refine rs (ym ?_)
 refine AWL.callE rfl rfl (B rfl) rfl ce_54 (E rfl rfl) (evsC (E rfl rfl) evs0) (F1 := []) (S1 := []) rfl (cStartFn) ?_
 rintro t4 S4 ⟨rfl, rfl⟩
 refine ym ?_
 refine AWL.callE rfl rfl (B rfl) rfl ce_55 (E rfl rfl) (evsC (E rfl rfl) evs0) (F1 := []) (S1 := []) rfl (cAllocFn) ?_
 rintro t6 S6 ⟨rfl, rfl⟩
 refine ym ?_
 refine AWL.callE rfl rfl (B rfl) rfl ce_56 (E rfl rfl) (evsC (E rfl rfl) evs0) (F1 := []) (S1 := []) rfl (cMinorFn) ?_
 rintro t8 S8 ⟨rfl, rfl⟩
 refine ym ?_
 refine AWL.callE rfl rfl (B rfl) rfl ce_57 (E rfl rfl) (evsC (E rfl rfl) evs0) (F1 := []) (S1 := []) rfl (cMajorFn) ?_
 rintro t10 S10 ⟨rfl, rfl⟩
 refine AWL.callE rfl rfl (B rfl) rfl ce_58 (E rfl rfl) evs0 (F1 := []) (S1 := []) rfl (cMarkFn) ?_
 rintro t11 S11 ⟨rfl, rfl⟩
 refine AWL.callE rfl rfl (B rfl) rfl ce_59 (E rfl rfl) evs0 (F1 := []) (S1 := []) rfl (cFullFn) ?_
 rintro t12 S12 ⟨rfl, rfl⟩
 refine AWL.callE rfl rfl (B rfl) rfl ce_60 (E rfl rfl) evs0 (F1 := []) (S1 := []) rfl (cSizeFn) ?_
 rintro t13 S13 ⟨rfl, rfl⟩
 refine ym ?_
 refine AWL.callE rfl rfl (B rfl) rfl ce_61 (E rfl rfl) (evsC (E rfl rfl) evs0) (F1 := []) (S1 := []) rfl (cCopiedFn) ?_
 rintro t15 S15 ⟨rfl, rfl⟩
 refine ym ?_
 refine AWL.callE rfl rfl (B rfl) rfl ce_62 (E rfl rfl) (evsC (E rfl rfl) evs0) (F1 := []) (S1 := []) rfl (cForwardFn) ?_
 rintro t17 S17 ⟨rfl, rfl⟩
 refine ym ?_
 refine AWL.callE rfl rfl (B rfl) rfl ce_63 (E rfl rfl) (evsC (E rfl rfl) evs0) (F1 := []) (S1 := []) rfl (cScanFn) ?_
 rintro t19 S19 ⟨rfl, rfl⟩
 refine ym ?_
 refine AWL.callE rfl rfl (B rfl) rfl ce_64 (E rfl rfl) (evsC (E rfl rfl) evs0) (F1 := []) (S1 := []) rfl (cCollectFn) ?_
 rintro t21 S21 ⟨rfl, rfl⟩
 refine AWL.buildSliceE rfl rfl (B rfl) rfl el_53 (B rfl) rfl (evsC (E rfl rfl) (evsC (E rfl rfl) (evsC (E rfl rfl) (evsC (E rfl rfl) (evsC (E rfl rfl) (evsC (E rfl rfl) (evsC (E rfl rfl) (evsC (E rfl rfl) (evsC (E rfl rfl) (evsC (E rfl rfl) (evsC (E rfl rfl) evs0))))))))))) nB rfl rfl ?_
 refine ya ?_
 refine AW.ret (retI (.tmp rfl .nil) ?_)
 exact ⟨rfl, rfl⟩

end Go.Proofs.YtpgbpdnmjeoeoaaGreat.B
