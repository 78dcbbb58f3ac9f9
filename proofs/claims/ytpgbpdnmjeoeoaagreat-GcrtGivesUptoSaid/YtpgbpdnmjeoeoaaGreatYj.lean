/-
  TEXTS JOINED: BWk5.
-/
import Derived.Test.YtpgbpdnmjeoeoaaGreatYi
set_option linter.unusedSimpArgs false
set_option linter.unusedVariables false
set_option linter.unusedSectionVars false
set_option linter.unnecessarySimpa false
namespace Go.Proofs.YtpgbpdnmjeoeoaaGreat.B
open Go Go.RowKit

def mAllocFn : BM Unit :=
 bnd (labelM) fun d1 =>
 bnd (labelM) fun d2 =>
 bnd (mCell (272)) fun d3 =>
 bnd (mCell (256)) fun d4 =>
 bnd (mSub (d3) (d4)) fun d5 =>
 bnd (mIf (5) (d5) (0) (d1)) fun _ =>
 bnd (labelM) fun d7 =>
 bnd (mAt (d2)) fun _ =>
 bnd (mCell (264)) fun d9 =>
 bnd (mAdd (d9) (0)) fun d10 =>
 bnd (mCell (272)) fun d11 =>
 bnd (mIf (5) (d11) (d10) (d7)) fun _ =>
 bnd (mSetCell (264) (d10)) fun _ =>
 bnd (mRet (d9)) fun _ =>
 bnd (mAt (d7)) fun _ =>
 bnd (mCall ((1 + 2)) []) fun d16 =>
 bnd (mJump (d2)) fun _ =>
 bnd (mAt (d1)) fun _ =>
 bnd (labelM) fun d19 =>
 bnd (mCell (296)) fun d20 =>
 bnd (mCell (288)) fun d21 =>
 bnd (mSub (d20) (d21)) fun d22 =>
 bnd (mIf (6) (0) (d22) (d19)) fun _ =>
 bnd (mCall ((1 + 3)) []) fun d24 =>
 bnd (mCell (296)) fun d25 =>
 bnd (mCell (288)) fun d26 =>
 bnd (mSub (d25) (d26)) fun d27 =>
 bnd (mThen (5) (d27) (0) (mAlloc1 )) fun _ =>
 bnd (mAt (d19)) fun _ =>
 bnd (mCell (288)) fun d30 =>
 bnd (mAdd (d30) (0)) fun d31 =>
 bnd (mSetCell (288) (d31)) fun _ =>
 bnd (mCell (320)) fun d33 =>
 bnd (mSave (d33) (0) (d30)) fun _ =>
 bnd (mAddC (d33) (8)) fun d35 =>
 bnd (mSetCell (320) (d35)) fun _ =>
 bnd (mC (37)) fun d37 =>
 bnd (mSave (d30) (0) (d37)) fun _ =>
 mRet (d30)
def fAllocFn : Fn := fnB (mAllocFn (bd0 [103, 99, 46, 97, 108, 108, 111, 99] 1)).2
set_option maxHeartbeats 16000000 in
theorem cAllocFn_  :
    ACalls Tryz.prog 55 [zi 1] [] (fun t S => t = .agg (fnCells (fAllocFn))) := by
 refine ACalls.intro Tryz.func55 rfl Tryz.ntmps55 nB rfl fun X w0 => ?_
 refine rs ?_
 refine AWL.boxOp rfl rfl (B rfl) rfl (E rfl rfl) rfl (fun b1 => ?_)
 refine AWL.perm (List.perm_append_singleton _ _).symm ?_
 refine AWL.allocOp rfl rfl (B rfl) rfl zc_93 (fun b2 => ?_)
 refine AWL.perm (List.perm_append_singleton _ _).symm (nl ?_)
 refine rs ?_
 refine cE ce_32 [z93 b2, i3 b1 1] [] rfl rfl rfl (cNew [103, 99, 46, 97, 108, 108, 111, 99] 1) ?_
 rintro t13 S13 ⟨p, rfl, rfl⟩
 have ok0 : BdOk 1 (bd0 [103, 99, 46, 97, 108, 108, 111, 99] 1) := ⟨by decide, by decide, by decide, by decide, by decide, by decide, by decide⟩
 refine AWL.allocOp rfl rfl (B rfl) rfl zc_87 (fun b3 => ?_)
 refine AWL.perm (List.perm_append_singleton _ _).symm ?_
 refine AWL.storeBox (i := 0) rfl rfl rfl ag_87 rfl (E rfl rfl) (E rfl rfl) rfl rfl nB (nl ?_)
 refine ra ?_
 refine AW.rseqH (HeldCs [(b3, 0, Value.pointer (some ⟨p, 0, none⟩)), (b1, 0, Value.int .i64 (1))]) rfl (tells_cs (tcB 0 rfl rfl pinV (tcB 2 rfl rfl pinV (tc0)))) ?_
 refine T2 (i := 0) rfl (heldB 0 rfl ag_87 (E rfl rfl) rfl (fun _ _ => .v _)) ?_
 refine T2 (i := 2) rfl (heldB 0 rfl ag_87 (E rfl rfl) rfl (fun _ _ => .v _)) ?_
 refine AWH.one (i := 1) (by kernel_rfl) rfl ?_
 refine cE ce_84 [p87 b3 p, z93 b2, i3 b1 1] (BdE p (bd0 [103, 99, 46, 97, 108, 108, 111, 99] 1) none 0) rfl rfl rfl (cLabel p 1 (bd0 [103, 99, 46, 97, 108, 108, 111, 99] 1) none 0 ok0 (by omega) ) ?_
 rintro t15 S15 ⟨d1, bd1, A1, c1, e1, ok1, rfl, rfl⟩
 refine AWL.nil (kpH (tcB 0 rfl rfl pinV (tcB 2 rfl rfl pinV (tc0))) ?_)
 refine AWH.one (i := 3) (by kernel_rfl) rfl ?_
 refine cE ce_84 [p87 b3 p, z93 b2, i3 b1 1] (BdE p bd1 A1 c1) rfl rfl rfl (cLabel p (1 + 1) bd1 A1 c1 ok1 (by omega) ) ?_
 rintro t17 S17 ⟨d2, bd2, A2, c2, e2, ok2, rfl, rfl⟩
 refine AWL.nil (kpH (tcB 0 rfl rfl pinV (tcB 2 rfl rfl pinV (tc0))) ?_)
 refine AWH.one (i := 4) (by kernel_rfl) rfl ?_
 refine Y1 (Yv.assign rfl eV) ?_
 refine AWL.nil (kpH (tcB 0 rfl rfl pinV (tcB 2 rfl rfl pinV (tc0))) ?_)
 refine AWH.one (i := 5) (by kernel_rfl) rfl ?_
 refine Y1 (Yv.assign rfl eV) ?_
 refine AWL.nil (kpH (tcB 0 rfl rfl pinV (tcB 2 rfl rfl pinV (tc0))) ?_)
 refine AWH.done (by kernel_rfl) ?_
 refine AW.rseqH (HeldCs [(b3, 0, Value.pointer (some ⟨p, 0, none⟩)), (b1, 0, Value.int .i64 (1))]) rfl (tells_cs (tcB 0 rfl rfl pinV (tcB 2 rfl rfl pinV (tc0)))) ?_
 refine T2 (i := 0) rfl (heldB 0 rfl ag_87 (E rfl rfl) rfl (fun _ _ => .v _)) ?_
 refine T2 (i := 1) rfl (heldB 0 rfl ag_87 (E rfl rfl) rfl (fun _ _ => .v _)) ?_
 refine T2 (i := 2) rfl (heldB 0 rfl ag_87 (E rfl rfl) rfl (fun _ _ => .v _)) ?_
 refine T2 (i := 4) rfl (heldB 0 rfl ag_87 (E rfl rfl) rfl (fun _ _ => .v _)) ?_
 refine T2 (i := 7) rfl (heldAll (freeMove rfl (E rfl rfl))) ?_
 refine T2 (i := 8) rfl (heldAll (freeMove rfl (E rfl rfl))) ?_
 refine AWH.one (i := 3) (by kernel_rfl) rfl ?_
 refine cE ce_87 [p87 b3 p, z93 b2, i3 b1 1] (BdE p bd2 A2 c2) rfl rfl rfl (cCell p (1 + 2) bd2 A2 c2 ok2 (by omega) 272) ?_
 rintro t21 S21 ⟨d3, bd3, A3, c3, e3, ok3, rfl, rfl⟩
 refine AWL.nil (kpH (tcB 0 rfl rfl pinV (tcB 2 rfl rfl pinV (tc0))) ?_)
 refine AWH.one (i := 5) (by kernel_rfl) rfl ?_
 refine cE ce_87 [p87 b3 p, z93 b2, i3 b1 1] (BdE p bd3 A3 c3) rfl rfl rfl (cCell p (1 + 6) bd3 A3 c3 ok3 (by omega) 256) ?_
 rintro t23 S23 ⟨d4, bd4, A4, c4, e4, ok4, rfl, rfl⟩
 refine AWL.nil (kpH (tcB 0 rfl rfl pinV (tcB 2 rfl rfl pinV (tc0))) ?_)
 refine AWH.one (i := 6) (by kernel_rfl) rfl ?_
 refine cE ce_86 [p87 b3 p, z93 b2, i3 b1 1] (BdE p bd4 A4 c4) rfl rfl rfl (cSub p (1 + 10) bd4 A4 c4 ok4 (by omega) d3 d4) ?_
 rintro t24 S24 ⟨d5, bd5, A5, c5, e5, ok5, rfl, rfl⟩
 refine AWL.nil (kpH (tcB 0 rfl rfl pinV (tcB 2 rfl rfl pinV (tc0))) ?_)
 refine AWH.one (i := 9) (by kernel_rfl) rfl ?_
 refine cE ce_85 [p87 b3 p, z93 b2, i3 b1 1] (BdE p bd5 A5 c5) rfl rfl rfl (cIf p (1 + 12) bd5 A5 c5 ok5 (by omega) 5 d5 0 d1) ?_
 rintro t27 S27 ⟨d6, bd6, A6, c6, e6, ok6, rfl, rfl⟩
 refine AWL.nil (kpH (tcB 0 rfl rfl pinV (tcB 2 rfl rfl pinV (tc0))) ?_)
 refine AWH.done (by kernel_rfl) ?_
 refine rs (yl ag_87 0 ?_)
 refine cE ce_84 [p87 b3 p, z93 b2, i3 b1 1] (BdE p bd6 A6 c6) rfl rfl rfl (cLabel p (1 + 13) bd6 A6 c6 ok6 (by omega) ) ?_
 rintro t29 S29 ⟨d7, bd7, A7, c7, e7, ok7, rfl, rfl⟩
 refine ya ?_
 refine rs (yl ag_87 0 ?_)
 refine ym ?_
 refine cE ce_88 [p87 b3 p, z93 b2, i3 b1 1] (BdE p bd7 A7 c7) rfl rfl rfl (cAt p (1 + 14) bd7 A7 c7 ok7 (by omega) d2) ?_
 rintro t32 S32 ⟨d8, bd8, A8, c8, e8, ok8, rfl, rfl⟩
 refine nl ?_
 refine rs (yl ag_87 0 ?_)
 refine cE ce_87 [p87 b3 p, z93 b2, i3 b1 1] (BdE p bd8 A8 c8) rfl rfl rfl (cCell p (1 + 15) bd8 A8 c8 ok8 (by omega) 264) ?_
 rintro t34 S34 ⟨d9, bd9, A9, c9, e9, ok9, rfl, rfl⟩
 refine ya ?_
 refine rs (yl ag_87 0 ?_)
 refine ym ?_
 refine ym ?_
 refine cE ce_83 [p87 b3 p, z93 b2, i3 b1 1] (BdE p bd9 A9 c9) rfl rfl rfl (cAdd p (1 + 19) bd9 A9 c9 ok9 (by omega) d9 0) ?_
 rintro t38 S38 ⟨d10, bd10, A10, c10, e10, ok10, rfl, rfl⟩
 refine ya ?_
 refine AW.rseqH (HeldCs [(b3, 0, Value.pointer (some ⟨p, 0, none⟩)), (b1, 0, Value.int .i64 (1))]) rfl (tells_cs (tcB 0 rfl rfl pinV (tcB 2 rfl rfl pinV (tc0)))) ?_
 refine T2 (i := 0) rfl (heldB 0 rfl ag_87 (E rfl rfl) rfl (fun _ _ => .v _)) ?_
 refine T2 (i := 1) rfl (heldB 0 rfl ag_87 (E rfl rfl) rfl (fun _ _ => .v _)) ?_
 refine T2 (i := 3) rfl (heldAll (freeMove rfl (E rfl rfl))) ?_
 refine T2 (i := 4) rfl (heldAll (freeMove rfl (E rfl rfl))) ?_
 refine AWH.one (i := 2) (by kernel_rfl) rfl ?_
 refine cE ce_87 [p87 b3 p, z93 b2, i3 b1 1] (BdE p bd10 A10 c10) rfl rfl rfl (cCell p (1 + 21) bd10 A10 c10 ok10 (by omega) 272) ?_
 rintro t41 S41 ⟨d11, bd11, A11, c11, e11, ok11, rfl, rfl⟩
 refine AWL.nil (kpH (tcB 0 rfl rfl pinV (tcB 2 rfl rfl pinV (tc0))) ?_)
 refine AWH.one (i := 5) (by kernel_rfl) rfl ?_
 refine cE ce_85 [p87 b3 p, z93 b2, i3 b1 1] (BdE p bd11 A11 c11) rfl rfl rfl (cIf p (1 + 25) bd11 A11 c11 ok11 (by omega) 5 d11 d10 d7) ?_
 rintro t44 S44 ⟨d12, bd12, A12, c12, e12, ok12, rfl, rfl⟩
 refine AWL.nil (kpH (tcB 0 rfl rfl pinV (tcB 2 rfl rfl pinV (tc0))) ?_)
 refine AWH.done (by kernel_rfl) ?_
 refine rs (yl ag_87 0 ?_)
 refine ym ?_
 refine cE ce_76 [p87 b3 p, z93 b2, i3 b1 1] (BdE p bd12 A12 c12) rfl rfl rfl (cSetCell p (1 + 26) bd12 A12 c12 ok12 (by omega) 264 d10) ?_
 rintro t47 S47 ⟨d13, bd13, A13, c13, e13, ok13, rfl, rfl⟩
 refine nl ?_
 refine rs (yl ag_87 0 ?_)
 refine ym ?_
 refine cE ce_52 [p87 b3 p, z93 b2, i3 b1 1] (BdE p bd13 A13 c13) rfl rfl rfl (cRet p (1 + 29) bd13 A13 c13 ok13 (by omega) d9) ?_
 rintro t50 S50 ⟨d14, bd14, A14, c14, e14, ok14, rfl, rfl⟩
 refine nl ?_
 refine rs (yl ag_87 0 ?_)
 refine ym ?_
 refine cE ce_88 [p87 b3 p, z93 b2, i3 b1 1] (BdE p bd14 A14 c14) rfl rfl rfl (cAt p (1 + 30) bd14 A14 c14 ok14 (by omega) d7) ?_
 rintro t53 S53 ⟨d15, bd15, A15, c15, e15, ok15, rfl, rfl⟩
 refine nl ?_
 refine rs (yl ag_87 0 ?_)
 refine yl ag_3 2 ?_
 refine Y1 (Yv.addN_i64 rfl eV eV (fun hg => by omega)) ?_
 refine cE ce_33 [p87 b3 p, z93 b2, i3 b1 1] (BdE p bd15 A15 c15) rfl rfl rfl ((cCall p (1 + 31) bd15 A15 c15 ok15 (by omega) ((1 + 2)) []).le (.cons .refl (.cons .refl (.cons nilSl (.refl))))) ?_
 rintro t57 S57 ⟨d16, bd16, A16, c16, e16, ok16, rfl, rfl⟩
 refine nl ?_
 refine rs (yl ag_87 0 ?_)
 refine ym ?_
 refine cE ce_89 [p87 b3 p, z93 b2, i3 b1 1] (BdE p bd16 A16 c16) rfl rfl rfl (cJump p (1 + 33) bd16 A16 c16 ok16 (by omega) d2) ?_
 rintro t60 S60 ⟨d17, bd17, A17, c17, e17, ok17, rfl, rfl⟩
 refine nl ?_
 refine rs (yl ag_87 0 ?_)
 refine ym ?_
 refine cE ce_88 [p87 b3 p, z93 b2, i3 b1 1] (BdE p bd17 A17 c17) rfl rfl rfl (cAt p (1 + 34) bd17 A17 c17 ok17 (by omega) d1) ?_
 rintro t63 S63 ⟨d18, bd18, A18, c18, e18, ok18, rfl, rfl⟩
 refine nl ?_
 refine rs (yl ag_87 0 ?_)
 refine cE ce_84 [p87 b3 p, z93 b2, i3 b1 1] (BdE p bd18 A18 c18) rfl rfl rfl (cLabel p (1 + 35) bd18 A18 c18 ok18 (by omega) ) ?_
 rintro t65 S65 ⟨d19, bd19, A19, c19, e19, ok19, rfl, rfl⟩
 refine ya ?_
 refine AW.rseqH (HeldCs [(b3, 0, Value.pointer (some ⟨p, 0, none⟩)), (b1, 0, Value.int .i64 (1))]) rfl (tells_cs (tcB 0 rfl rfl pinV (tcB 2 rfl rfl pinV (tc0)))) ?_
 refine T2 (i := 0) rfl (heldB 0 rfl ag_87 (E rfl rfl) rfl (fun _ _ => .v _)) ?_
 refine T2 (i := 1) rfl (heldAll (freeMove rfl (E rfl rfl))) ?_
 refine T2 (i := 2) rfl (heldB 0 rfl ag_87 (E rfl rfl) rfl (fun _ _ => .v _)) ?_
 refine T2 (i := 3) rfl (heldB 0 rfl ag_87 (E rfl rfl) rfl (fun _ _ => .v _)) ?_
 refine T2 (i := 5) rfl (heldB 0 rfl ag_87 (E rfl rfl) rfl (fun _ _ => .v _)) ?_
 refine T2 (i := 8) rfl (heldAll (freeMove rfl (E rfl rfl))) ?_
 refine AWH.one (i := 4) (by kernel_rfl) rfl ?_
 refine cE ce_87 [p87 b3 p, z93 b2, i3 b1 1] (BdE p bd19 A19 c19) rfl rfl rfl (cCell p (1 + 36) bd19 A19 c19 ok19 (by omega) 296) ?_
 rintro t70 S70 ⟨d20, bd20, A20, c20, e20, ok20, rfl, rfl⟩
 refine AWL.nil (kpH (tcB 0 rfl rfl pinV (tcB 2 rfl rfl pinV (tc0))) ?_)
 refine AWH.one (i := 6) (by kernel_rfl) rfl ?_
 refine cE ce_87 [p87 b3 p, z93 b2, i3 b1 1] (BdE p bd20 A20 c20) rfl rfl rfl (cCell p (1 + 40) bd20 A20 c20 ok20 (by omega) 288) ?_
 rintro t72 S72 ⟨d21, bd21, A21, c21, e21, ok21, rfl, rfl⟩
 refine AWL.nil (kpH (tcB 0 rfl rfl pinV (tcB 2 rfl rfl pinV (tc0))) ?_)
 refine AWH.one (i := 7) (by kernel_rfl) rfl ?_
 refine cE ce_86 [p87 b3 p, z93 b2, i3 b1 1] (BdE p bd21 A21 c21) rfl rfl rfl (cSub p (1 + 44) bd21 A21 c21 ok21 (by omega) d20 d21) ?_
 rintro t73 S73 ⟨d22, bd22, A22, c22, e22, ok22, rfl, rfl⟩
 refine AWL.nil (kpH (tcB 0 rfl rfl pinV (tcB 2 rfl rfl pinV (tc0))) ?_)
 refine AWH.one (i := 9) (by kernel_rfl) rfl ?_
 refine cE ce_85 [p87 b3 p, z93 b2, i3 b1 1] (BdE p bd22 A22 c22) rfl rfl rfl (cIf p (1 + 46) bd22 A22 c22 ok22 (by omega) 6 0 d22 d19) ?_
 rintro t75 S75 ⟨d23, bd23, A23, c23, e23, ok23, rfl, rfl⟩
 refine AWL.nil (kpH (tcB 0 rfl rfl pinV (tcB 2 rfl rfl pinV (tc0))) ?_)
 refine AWH.done (by kernel_rfl) ?_
 refine rs (yl ag_87 0 ?_)
 refine yl ag_3 2 ?_
 refine Y1 (Yv.addN_i64 rfl eV eV (fun hg => by omega)) ?_
 refine cE ce_33 [p87 b3 p, z93 b2, i3 b1 1] (BdE p bd23 A23 c23) rfl rfl rfl ((cCall p (1 + 47) bd23 A23 c23 ok23 (by omega) ((1 + 3)) []).le (.cons .refl (.cons .refl (.cons nilSl (.refl))))) ?_
 rintro t79 S79 ⟨d24, bd24, A24, c24, e24, ok24, rfl, rfl⟩
 refine nl ?_
 refine AW.rseqH (HeldCs [(b3, 0, Value.pointer (some ⟨p, 0, none⟩)), (b1, 0, Value.int .i64 (1))]) rfl (tells_cs (tcB 0 rfl rfl pinV (tcB 2 rfl rfl pinV (tc0)))) ?_
 refine T2 (i := 0) rfl (heldB 0 rfl ag_87 (E rfl rfl) rfl (fun _ _ => .v _)) ?_
 refine T2 (i := 1) rfl (heldB 0 rfl ag_87 (E rfl rfl) rfl (fun _ _ => .v _)) ?_
 refine T2 (i := 2) rfl (heldB 0 rfl ag_87 (E rfl rfl) rfl (fun _ _ => .v _)) ?_
 refine T2 (i := 4) rfl (heldB 0 rfl ag_87 (E rfl rfl) rfl (fun _ _ => .v _)) ?_
 refine T2 (i := 7) rfl (heldAll (freeMove rfl (E rfl rfl))) ?_
 refine T2 (i := 8) rfl (heldAll (freeMk rfl evs0 rfl (evsC (E rfl rfl) (evsC (E rfl rfl) evs0)) rfl)) ?_
 refine AWH.one (i := 3) (by kernel_rfl) rfl ?_
 refine cE ce_87 [p87 b3 p, z93 b2, i3 b1 1] (BdE p bd24 A24 c24) rfl rfl rfl (cCell p (1 + 49) bd24 A24 c24 ok24 (by omega) 296) ?_
 rintro t83 S83 ⟨d25, bd25, A25, c25, e25, ok25, rfl, rfl⟩
 refine AWL.nil (kpH (tcB 0 rfl rfl pinV (tcB 2 rfl rfl pinV (tc0))) ?_)
 refine AWH.one (i := 5) (by kernel_rfl) rfl ?_
 refine cE ce_87 [p87 b3 p, z93 b2, i3 b1 1] (BdE p bd25 A25 c25) rfl rfl rfl (cCell p (1 + 53) bd25 A25 c25 ok25 (by omega) 288) ?_
 rintro t85 S85 ⟨d26, bd26, A26, c26, e26, ok26, rfl, rfl⟩
 refine AWL.nil (kpH (tcB 0 rfl rfl pinV (tcB 2 rfl rfl pinV (tc0))) ?_)
 refine AWH.one (i := 6) (by kernel_rfl) rfl ?_
 refine cE ce_86 [p87 b3 p, z93 b2, i3 b1 1] (BdE p bd26 A26 c26) rfl rfl rfl (cSub p (1 + 57) bd26 A26 c26 ok26 (by omega) d25 d26) ?_
 rintro t86 S86 ⟨d27, bd27, A27, c27, e27, ok27, rfl, rfl⟩
 refine AWL.nil (kpH (tcB 0 rfl rfl pinV (tcB 2 rfl rfl pinV (tc0))) ?_)
 refine AWH.one (i := 9) (by kernel_rfl) rfl ?_
 refine cA ce_80 rfl rfl rfl (cThen p (1 + 59) 1 bd27 A27 c27 ok27 (by omega) 5 d27 0 90 #[.pointer (some ⟨b3, 0, none⟩), .pointer (some ⟨b1, 0, none⟩)] [p87 b3 p, z93 b2, i3 b1 1] (mAlloc1 ) ce_90 (fun bd9 A9 c9 ok9 => cAlloc1 p _ bd9 A9 c9 ok9 (by omega) [p87 b3 p, z93 b2, i3 b1 1] 0 b3 rfl 2 b1 rfl)) ?_
 rintro t89 S89 ⟨rfl, bd28, A28, c28, e28, ok28, rfl⟩
 refine AWL.nil (kpH (tcB 0 rfl rfl pinV (tcB 2 rfl rfl pinV (tc0))) ?_)
 refine AWH.done (by kernel_rfl) ?_
 refine rs (yl ag_87 0 ?_)
 refine ym ?_
 refine cE ce_88 [p87 b3 p, z93 b2, i3 b1 1] (BdE p bd28 A28 c28) rfl rfl rfl (cAt p (1 + 63) bd28 A28 c28 ok28 (by omega) d19) ?_
 rintro t92 S92 ⟨d29, bd29, A29, c29, e29, ok29, rfl, rfl⟩
 refine nl ?_
 refine rs (yl ag_87 0 ?_)
 refine cE ce_87 [p87 b3 p, z93 b2, i3 b1 1] (BdE p bd29 A29 c29) rfl rfl rfl (cCell p (1 + 64) bd29 A29 c29 ok29 (by omega) 288) ?_
 rintro t94 S94 ⟨d30, bd30, A30, c30, e30, ok30, rfl, rfl⟩
 refine ya ?_
 refine AW.rseqH (HeldCs [(b3, 0, Value.pointer (some ⟨p, 0, none⟩)), (b1, 0, Value.int .i64 (1))]) rfl (tells_cs (tcB 0 rfl rfl pinV (tcB 2 rfl rfl pinV (tc0)))) ?_
 refine T2 (i := 0) rfl (heldB 0 rfl ag_87 (E rfl rfl) rfl (fun _ _ => .v _)) ?_
 refine T2 (i := 1) rfl (heldB 0 rfl ag_87 (E rfl rfl) rfl (fun _ _ => .v _)) ?_
 refine T2 (i := 2) rfl (heldAll (freeMove rfl (E rfl rfl))) ?_
 refine AWH.one (i := 3) (by kernel_rfl) rfl ?_
 refine ym ?_
 refine AWL.nil (kpH (tcB 0 rfl rfl pinV (tcB 2 rfl rfl pinV (tc0))) ?_)
 refine AWH.one (i := 4) (by kernel_rfl) rfl ?_
 refine cE ce_83 [p87 b3 p, z93 b2, i3 b1 1] (BdE p bd30 A30 c30) rfl rfl rfl (cAdd p (1 + 68) bd30 A30 c30 ok30 (by omega) d30 0) ?_
 rintro t99 S99 ⟨d31, bd31, A31, c31, e31, ok31, rfl, rfl⟩
 refine AWL.nil (kpH (tcB 0 rfl rfl pinV (tcB 2 rfl rfl pinV (tc0))) ?_)
 refine AWH.one (i := 5) (by kernel_rfl) rfl ?_
 refine cE ce_76 [p87 b3 p, z93 b2, i3 b1 1] (BdE p bd31 A31 c31) rfl rfl rfl (cSetCell p (1 + 70) bd31 A31 c31 ok31 (by omega) 288 d31) ?_
 rintro t100 S100 ⟨d32, bd32, A32, c32, e32, ok32, rfl, rfl⟩
 refine AWL.nil (kpH (tcB 0 rfl rfl pinV (tcB 2 rfl rfl pinV (tc0))) ?_)
 refine AWH.done (by kernel_rfl) ?_
 refine rs (yl ag_87 0 ?_)
 refine cE ce_87 [p87 b3 p, z93 b2, i3 b1 1] (BdE p bd32 A32 c32) rfl rfl rfl (cCell p (1 + 73) bd32 A32 c32 ok32 (by omega) 320) ?_
 rintro t102 S102 ⟨d33, bd33, A33, c33, e33, ok33, rfl, rfl⟩
 refine ya ?_
 refine rs (yl ag_87 0 ?_)
 refine ym ?_
 refine ym ?_
 refine cE ce_92 [p87 b3 p, z93 b2, i3 b1 1] (BdE p bd33 A33 c33) rfl rfl rfl (cSave p (1 + 77) bd33 A33 c33 ok33 (by omega) d33 0 d30) ?_
 rintro t106 S106 ⟨d34, bd34, A34, c34, e34, ok34, rfl, rfl⟩
 refine nl ?_
 refine AW.rseqH (HeldCs [(b3, 0, Value.pointer (some ⟨p, 0, none⟩)), (b1, 0, Value.int .i64 (1))]) rfl (tells_cs (tcB 0 rfl rfl pinV (tcB 2 rfl rfl pinV (tc0)))) ?_
 refine T2 (i := 0) rfl (heldB 0 rfl ag_87 (E rfl rfl) rfl (fun _ _ => .v _)) ?_
 refine T2 (i := 1) rfl (heldB 0 rfl ag_87 (E rfl rfl) rfl (fun _ _ => .v _)) ?_
 refine AWH.one (i := 2) (by kernel_rfl) rfl ?_
 refine ym ?_
 refine AWL.nil (kpH (tcB 0 rfl rfl pinV (tcB 2 rfl rfl pinV (tc0))) ?_)
 refine AWH.one (i := 3) (by kernel_rfl) rfl ?_
 refine cE ce_93 [p87 b3 p, z93 b2, i3 b1 1] (BdE p bd34 A34 c34) rfl rfl rfl (cAddC p (1 + 78) bd34 A34 c34 ok34 (by omega) d33 8) ?_
 rintro t110 S110 ⟨d35, bd35, A35, c35, e35, ok35, rfl, rfl⟩
 refine AWL.nil (kpH (tcB 0 rfl rfl pinV (tcB 2 rfl rfl pinV (tc0))) ?_)
 refine AWH.one (i := 4) (by kernel_rfl) rfl ?_
 refine cE ce_76 [p87 b3 p, z93 b2, i3 b1 1] (BdE p bd35 A35 c35) rfl rfl rfl (cSetCell p (1 + 82) bd35 A35 c35 ok35 (by omega) 320 d35) ?_
 rintro t111 S111 ⟨d36, bd36, A36, c36, e36, ok36, rfl, rfl⟩
 refine AWL.nil (kpH (tcB 0 rfl rfl pinV (tcB 2 rfl rfl pinV (tc0))) ?_)
 refine AWH.done (by kernel_rfl) ?_
 refine AW.rseqH (HeldCs [(b3, 0, Value.pointer (some ⟨p, 0, none⟩)), (b1, 0, Value.int .i64 (1))]) rfl (tells_cs (tcB 0 rfl rfl pinV (tcB 2 rfl rfl pinV (tc0)))) ?_
 refine T2 (i := 0) rfl (heldB 0 rfl ag_87 (E rfl rfl) rfl (fun _ _ => .v _)) ?_
 refine T2 (i := 1) rfl (heldAll (freeMove rfl (E rfl rfl))) ?_
 refine AWH.one (i := 2) (by kernel_rfl) rfl ?_
 refine yl ag_87 0 ?_
 refine AWL.nil (kpH (tcB 0 rfl rfl pinV (tcB 2 rfl rfl pinV (tc0))) ?_)
 refine AWH.one (i := 3) (by kernel_rfl) rfl ?_
 refine cE ce_53 [p87 b3 p, z93 b2, i3 b1 1] (BdE p bd36 A36 c36) rfl rfl rfl (cC p (1 + 85) bd36 A36 c36 ok36 (by omega) 37) ?_
 rintro t115 S115 ⟨d37, bd37, A37, c37, e37, ok37, rfl, rfl⟩
 refine AWL.nil (kpH (tcB 0 rfl rfl pinV (tcB 2 rfl rfl pinV (tc0))) ?_)
 refine AWH.one (i := 4) (by kernel_rfl) rfl ?_
 refine cE ce_92 [p87 b3 p, z93 b2, i3 b1 1] (BdE p bd37 A37 c37) rfl rfl rfl (cSave p (1 + 87) bd37 A37 c37 ok37 (by omega) d30 0 d37) ?_
 rintro t116 S116 ⟨d38, bd38, A38, c38, e38, ok38, rfl, rfl⟩
 refine AWL.nil (kpH (tcB 0 rfl rfl pinV (tcB 2 rfl rfl pinV (tc0))) ?_)
 refine AWH.done (by kernel_rfl) ?_
 refine rs (yl ag_87 0 ?_)
 refine ym ?_
 refine cE ce_52 [p87 b3 p, z93 b2, i3 b1 1] (BdE p bd38 A38 c38) rfl rfl rfl (cRet p (1 + 88) bd38 A38 c38 ok38 (by omega) d30) ?_
 rintro t119 S119 ⟨d39, bd39, A39, c39, e39, ok39, rfl, rfl⟩
 refine nl ?_
 refine rs (yl ag_87 0 ?_)
 refine cE ce_35 [p87 b3 p, z93 b2, i3 b1 1] (BdE p bd39 A39 c39) rfl rfl rfl (cDone p bd39 A39 c39) ?_
 rintro t121 S121 ⟨rfl, rfl⟩
 refine AWL.storeBox (i := 1) rfl rfl rfl ag_93 rfl (E rfl rfl) (E rfl rfl) rfl rfl nB (nl ?_)
 refine AW.ret (retI (.cellA (i := 1) rfl ag_93 rfl rfl rfl .nil) ?_)
 show _ = T.agg (fnCells (fnB (mAllocFn (bd0 [103, 99, 46, 97, 108, 108, 111, 99] 1)).2))
 rw [show mAllocFn (bd0 [103, 99, 46, 97, 108, 108, 111, 99] 1) = ((), bd39) from (bq e1).trans ((bq e2).trans ((bq e3).trans ((bq e4).trans ((bq e5).trans ((bq e6).trans ((bq e7).trans ((bq e8).trans ((bq e9).trans ((bq e10).trans ((bq e11).trans ((bq e12).trans ((bq e13).trans ((bq e14).trans ((bq e15).trans ((bq e16).trans ((bq e17).trans ((bq e18).trans ((bq e19).trans ((bq e20).trans ((bq e21).trans ((bq e22).trans ((bq e23).trans ((bq e24).trans ((bq e25).trans ((bq e26).trans ((bq e27).trans ((bq e28).trans ((bq e29).trans ((bq e30).trans ((bq e31).trans ((bq e32).trans ((bq e33).trans ((bq e34).trans ((bq e35).trans ((bq e36).trans ((bq e37).trans ((bq e38).trans (e39))))))))))))))))))))))))))))))))))))))]
 rfl

theorem cAllocFn : ACalls Tryz.prog 55 [zi 1] [] (fun t S => t = .agg (fnCells fAllocFn) ∧ S = []) := (cAllocFn_).less fun t S' h => ⟨[], List.nil_sublist _, h, rfl⟩
def mMinorFn : BM Unit :=
 bnd (mCell (264)) fun d1 =>
 bnd (mCell (256)) fun d2 =>
 bnd (mSub (d1) (d2)) fun d3 =>
 bnd (mCell (296)) fun d4 =>
 bnd (mCell (288)) fun d5 =>
 bnd (mSub (d4) (d5)) fun d6 =>
 bnd (mThen (5) (d6) (d3) (mMinor1 )) fun _ =>
 bnd (mCell (256)) fun d8 =>
 bnd (mSetCell (344) (d8)) fun _ =>
 bnd (mCell (272)) fun d10 =>
 bnd (mCell (256)) fun d11 =>
 bnd (mSub (d10) (d11)) fun d12 =>
 bnd (mSetCell (352) (d12)) fun _ =>
 bnd (mC (0)) fun d14 =>
 bnd (mSetCell (360) (d14)) fun _ =>
 bnd (mSetCell (368) (d14)) fun _ =>
 bnd (mCell (288)) fun d17 =>
 bnd (mSetCell (328) (d17)) fun _ =>
 bnd (mCell (296)) fun d19 =>
 bnd (mSetCell (336) (d19)) fun _ =>
 bnd (mCall ((1 + 10)) [d17]) fun d21 =>
 bnd (mCell (328)) fun d22 =>
 bnd (mSetCell (288) (d22)) fun _ =>
 bnd (mEmptied ) fun _ =>
 mRetC (1)
def fMinorFn : Fn := fnB (mMinorFn (bd0 [103, 99, 46, 109, 105, 110, 111, 114] 0)).2
set_option maxHeartbeats 16000000 in
theorem cMinorFn_  :
    ACalls Tryz.prog 56 [zi 1] [] (fun t S => t = .agg (fnCells (fMinorFn))) := by
 refine ACalls.intro Tryz.func56 rfl Tryz.ntmps56 nB rfl fun X w0 => ?_
 refine rs ?_
 refine AWL.boxOp rfl rfl (B rfl) rfl (E rfl rfl) rfl (fun b1 => ?_)
 refine AWL.perm (List.perm_append_singleton _ _).symm ?_
 refine AWL.allocOp rfl rfl (B rfl) rfl zc_93 (fun b2 => ?_)
 refine AWL.perm (List.perm_append_singleton _ _).symm (nl ?_)
 refine rs ?_
 refine cE ce_32 [z93 b2, i3 b1 1] [] rfl rfl rfl (cNew [103, 99, 46, 109, 105, 110, 111, 114] 0) ?_
 rintro t8 S8 ⟨p, rfl, rfl⟩
 have ok0 : BdOk 1 (bd0 [103, 99, 46, 109, 105, 110, 111, 114] 0) := ⟨by decide, by decide, by decide, by decide, by decide, by decide, by decide⟩
 refine AWL.allocOp rfl rfl (B rfl) rfl zc_87 (fun b3 => ?_)
 refine AWL.perm (List.perm_append_singleton _ _).symm ?_
 refine AWL.storeBox (i := 0) rfl rfl rfl ag_87 rfl (E rfl rfl) (E rfl rfl) rfl rfl nB (nl ?_)
 refine AW.rseqH (HeldCs [(b3, 0, Value.pointer (some ⟨p, 0, none⟩)), (b1, 0, Value.int .i64 (1))]) rfl (tells_cs (tcB 0 rfl rfl pinV (tcB 2 rfl rfl pinV (tc0)))) ?_
 refine T2 (i := 0) rfl (heldB 0 rfl ag_87 (E rfl rfl) rfl (fun _ _ => .v _)) ?_
 refine T2 (i := 1) rfl (heldB 0 rfl ag_87 (E rfl rfl) rfl (fun _ _ => .v _)) ?_
 refine T2 (i := 3) rfl (heldB 0 rfl ag_87 (E rfl rfl) rfl (fun _ _ => .v _)) ?_
 refine AWH.one (i := 2) (by kernel_rfl) rfl ?_
 refine cE ce_87 [p87 b3 p, z93 b2, i3 b1 1] (BdE p (bd0 [103, 99, 46, 109, 105, 110, 111, 114] 0) none 0) rfl rfl rfl (cCell p 1 (bd0 [103, 99, 46, 109, 105, 110, 111, 114] 0) none 0 ok0 (by omega) 264) ?_
 rintro t11 S11 ⟨d1, bd1, A1, c1, e1, ok1, rfl, rfl⟩
 refine AWL.nil (kpH (tcB 0 rfl rfl pinV (tcB 2 rfl rfl pinV (tc0))) ?_)
 refine AWH.one (i := 4) (by kernel_rfl) rfl ?_
 refine cE ce_87 [p87 b3 p, z93 b2, i3 b1 1] (BdE p bd1 A1 c1) rfl rfl rfl (cCell p (1 + 4) bd1 A1 c1 ok1 (by omega) 256) ?_
 rintro t13 S13 ⟨d2, bd2, A2, c2, e2, ok2, rfl, rfl⟩
 refine AWL.nil (kpH (tcB 0 rfl rfl pinV (tcB 2 rfl rfl pinV (tc0))) ?_)
 refine AWH.one (i := 5) (by kernel_rfl) rfl ?_
 refine cE ce_86 [p87 b3 p, z93 b2, i3 b1 1] (BdE p bd2 A2 c2) rfl rfl rfl (cSub p (1 + 8) bd2 A2 c2 ok2 (by omega) d1 d2) ?_
 rintro t14 S14 ⟨d3, bd3, A3, c3, e3, ok3, rfl, rfl⟩
 refine AWL.nil (kpH (tcB 0 rfl rfl pinV (tcB 2 rfl rfl pinV (tc0))) ?_)
 refine AWH.one (i := 6) (by kernel_rfl) rfl ?_
 refine Y1 (Yv.assign rfl eV) ?_
 refine AWL.nil (kpH (tcB 0 rfl rfl pinV (tcB 2 rfl rfl pinV (tc0))) ?_)
 refine AWH.done (by kernel_rfl) ?_
 refine AW.rseqH (HeldCs [(b3, 0, Value.pointer (some ⟨p, 0, none⟩)), (b1, 0, Value.int .i64 (1))]) rfl (tells_cs (tcB 0 rfl rfl pinV (tcB 2 rfl rfl pinV (tc0)))) ?_
 refine T2 (i := 0) rfl (heldB 0 rfl ag_87 (E rfl rfl) rfl (fun _ _ => .v _)) ?_
 refine T2 (i := 1) rfl (heldB 0 rfl ag_87 (E rfl rfl) rfl (fun _ _ => .v _)) ?_
 refine T2 (i := 3) rfl (heldB 0 rfl ag_87 (E rfl rfl) rfl (fun _ _ => .v _)) ?_
 refine AWH.one (i := 2) (by kernel_rfl) rfl ?_
 refine cE ce_87 [p87 b3 p, z93 b2, i3 b1 1] (BdE p bd3 A3 c3) rfl rfl rfl (cCell p (1 + 10) bd3 A3 c3 ok3 (by omega) 296) ?_
 rintro t17 S17 ⟨d4, bd4, A4, c4, e4, ok4, rfl, rfl⟩
 refine AWL.nil (kpH (tcB 0 rfl rfl pinV (tcB 2 rfl rfl pinV (tc0))) ?_)
 refine AWH.one (i := 4) (by kernel_rfl) rfl ?_
 refine cE ce_87 [p87 b3 p, z93 b2, i3 b1 1] (BdE p bd4 A4 c4) rfl rfl rfl (cCell p (1 + 14) bd4 A4 c4 ok4 (by omega) 288) ?_
 rintro t19 S19 ⟨d5, bd5, A5, c5, e5, ok5, rfl, rfl⟩
 refine AWL.nil (kpH (tcB 0 rfl rfl pinV (tcB 2 rfl rfl pinV (tc0))) ?_)
 refine AWH.one (i := 5) (by kernel_rfl) rfl ?_
 refine cE ce_86 [p87 b3 p, z93 b2, i3 b1 1] (BdE p bd5 A5 c5) rfl rfl rfl (cSub p (1 + 18) bd5 A5 c5 ok5 (by omega) d4 d5) ?_
 rintro t20 S20 ⟨d6, bd6, A6, c6, e6, ok6, rfl, rfl⟩
 refine AWL.nil (kpH (tcB 0 rfl rfl pinV (tcB 2 rfl rfl pinV (tc0))) ?_)
 refine AWH.one (i := 6) (by kernel_rfl) rfl ?_
 refine Y1 (Yv.assign rfl eV) ?_
 refine AWL.nil (kpH (tcB 0 rfl rfl pinV (tcB 2 rfl rfl pinV (tc0))) ?_)
 refine AWH.done (by kernel_rfl) ?_
 refine rs (yl ag_87 0 ?_)
 refine ym ?_
 refine ym ?_
 refine Y1 (Yv.makeFunc rfl evs0 rfl (evsC eV (evsC eV evs0)) rfl) ?_
 refine cA ce_80 rfl rfl rfl (cThen p (1 + 20) 1 bd6 A6 c6 ok6 (by omega) 5 d6 d3 94 #[.pointer (some ⟨b3, 0, none⟩), .pointer (some ⟨b1, 0, none⟩)] [p87 b3 p, z93 b2, i3 b1 1] (mMinor1 ) ce_94 (fun bd9 A9 c9 ok9 => cMinor1 p _ bd9 A9 c9 ok9 (by omega) [p87 b3 p, z93 b2, i3 b1 1] 0 b3 rfl 2 b1 rfl)) ?_
 rintro t25 S25 ⟨rfl, bd7, A7, c7, e7, ok7, rfl⟩
 refine nl ?_
 refine AW.rseqH (HeldCs [(b3, 0, Value.pointer (some ⟨p, 0, none⟩)), (b1, 0, Value.int .i64 (1))]) rfl (tells_cs (tcB 0 rfl rfl pinV (tcB 2 rfl rfl pinV (tc0)))) ?_
 refine T2 (i := 0) rfl (heldB 0 rfl ag_87 (E rfl rfl) rfl (fun _ _ => .v _)) ?_
 refine AWH.one (i := 1) (by kernel_rfl) rfl ?_
 refine yl ag_87 0 ?_
 refine AWL.nil (kpH (tcB 0 rfl rfl pinV (tcB 2 rfl rfl pinV (tc0))) ?_)
 refine AWH.one (i := 2) (by kernel_rfl) rfl ?_
 refine cE ce_87 [p87 b3 p, z93 b2, i3 b1 1] (BdE p bd7 A7 c7) rfl rfl rfl (cCell p (1 + 24) bd7 A7 c7 ok7 (by omega) 256) ?_
 rintro t28 S28 ⟨d8, bd8, A8, c8, e8, ok8, rfl, rfl⟩
 refine AWL.nil (kpH (tcB 0 rfl rfl pinV (tcB 2 rfl rfl pinV (tc0))) ?_)
 refine AWH.one (i := 3) (by kernel_rfl) rfl ?_
 refine cE ce_76 [p87 b3 p, z93 b2, i3 b1 1] (BdE p bd8 A8 c8) rfl rfl rfl (cSetCell p (1 + 28) bd8 A8 c8 ok8 (by omega) 344 d8) ?_
 rintro t29 S29 ⟨d9, bd9, A9, c9, e9, ok9, rfl, rfl⟩
 refine AWL.nil (kpH (tcB 0 rfl rfl pinV (tcB 2 rfl rfl pinV (tc0))) ?_)
 refine AWH.done (by kernel_rfl) ?_
 refine AW.rseqH (HeldCs [(b3, 0, Value.pointer (some ⟨p, 0, none⟩)), (b1, 0, Value.int .i64 (1))]) rfl (tells_cs (tcB 0 rfl rfl pinV (tcB 2 rfl rfl pinV (tc0)))) ?_
 refine T2 (i := 0) rfl (heldB 0 rfl ag_87 (E rfl rfl) rfl (fun _ _ => .v _)) ?_
 refine T2 (i := 1) rfl (heldB 0 rfl ag_87 (E rfl rfl) rfl (fun _ _ => .v _)) ?_
 refine T2 (i := 2) rfl (heldB 0 rfl ag_87 (E rfl rfl) rfl (fun _ _ => .v _)) ?_
 refine T2 (i := 4) rfl (heldB 0 rfl ag_87 (E rfl rfl) rfl (fun _ _ => .v _)) ?_
 refine AWH.one (i := 3) (by kernel_rfl) rfl ?_
 refine cE ce_87 [p87 b3 p, z93 b2, i3 b1 1] (BdE p bd9 A9 c9) rfl rfl rfl (cCell p (1 + 31) bd9 A9 c9 ok9 (by omega) 272) ?_
 rintro t33 S33 ⟨d10, bd10, A10, c10, e10, ok10, rfl, rfl⟩
 refine AWL.nil (kpH (tcB 0 rfl rfl pinV (tcB 2 rfl rfl pinV (tc0))) ?_)
 refine AWH.one (i := 5) (by kernel_rfl) rfl ?_
 refine cE ce_87 [p87 b3 p, z93 b2, i3 b1 1] (BdE p bd10 A10 c10) rfl rfl rfl (cCell p (1 + 35) bd10 A10 c10 ok10 (by omega) 256) ?_
 rintro t35 S35 ⟨d11, bd11, A11, c11, e11, ok11, rfl, rfl⟩
 refine AWL.nil (kpH (tcB 0 rfl rfl pinV (tcB 2 rfl rfl pinV (tc0))) ?_)
 refine AWH.one (i := 6) (by kernel_rfl) rfl ?_
 refine cE ce_86 [p87 b3 p, z93 b2, i3 b1 1] (BdE p bd11 A11 c11) rfl rfl rfl (cSub p (1 + 39) bd11 A11 c11 ok11 (by omega) d10 d11) ?_
 rintro t36 S36 ⟨d12, bd12, A12, c12, e12, ok12, rfl, rfl⟩
 refine AWL.nil (kpH (tcB 0 rfl rfl pinV (tcB 2 rfl rfl pinV (tc0))) ?_)
 refine AWH.one (i := 7) (by kernel_rfl) rfl ?_
 refine cE ce_76 [p87 b3 p, z93 b2, i3 b1 1] (BdE p bd12 A12 c12) rfl rfl rfl (cSetCell p (1 + 41) bd12 A12 c12 ok12 (by omega) 352 d12) ?_
 rintro t37 S37 ⟨d13, bd13, A13, c13, e13, ok13, rfl, rfl⟩
 refine AWL.nil (kpH (tcB 0 rfl rfl pinV (tcB 2 rfl rfl pinV (tc0))) ?_)
 refine AWH.done (by kernel_rfl) ?_
 refine rs (yl ag_87 0 ?_)
 refine cE ce_53 [p87 b3 p, z93 b2, i3 b1 1] (BdE p bd13 A13 c13) rfl rfl rfl (cC p (1 + 44) bd13 A13 c13 ok13 (by omega) 0) ?_
 rintro t39 S39 ⟨d14, bd14, A14, c14, e14, ok14, rfl, rfl⟩
 refine ya ?_
 refine rs (yl ag_87 0 ?_)
 refine ym ?_
 refine cE ce_76 [p87 b3 p, z93 b2, i3 b1 1] (BdE p bd14 A14 c14) rfl rfl rfl (cSetCell p (1 + 46) bd14 A14 c14 ok14 (by omega) 360 d14) ?_
 rintro t42 S42 ⟨d15, bd15, A15, c15, e15, ok15, rfl, rfl⟩
 refine nl ?_
 refine rs (yl ag_87 0 ?_)
 refine ym ?_
 refine cE ce_76 [p87 b3 p, z93 b2, i3 b1 1] (BdE p bd15 A15 c15) rfl rfl rfl (cSetCell p (1 + 49) bd15 A15 c15 ok15 (by omega) 368 d14) ?_
 rintro t45 S45 ⟨d16, bd16, A16, c16, e16, ok16, rfl, rfl⟩
 refine nl ?_
 refine rs (yl ag_87 0 ?_)
 refine cE ce_87 [p87 b3 p, z93 b2, i3 b1 1] (BdE p bd16 A16 c16) rfl rfl rfl (cCell p (1 + 52) bd16 A16 c16 ok16 (by omega) 288) ?_
 rintro t47 S47 ⟨d17, bd17, A17, c17, e17, ok17, rfl, rfl⟩
 refine ya ?_
 refine rs (yl ag_87 0 ?_)
 refine ym ?_
 refine cE ce_76 [p87 b3 p, z93 b2, i3 b1 1] (BdE p bd17 A17 c17) rfl rfl rfl (cSetCell p (1 + 56) bd17 A17 c17 ok17 (by omega) 328 d17) ?_
 rintro t50 S50 ⟨d18, bd18, A18, c18, e18, ok18, rfl, rfl⟩
 refine nl ?_
 refine AW.rseqH (HeldCs [(b3, 0, Value.pointer (some ⟨p, 0, none⟩)), (b1, 0, Value.int .i64 (1))]) rfl (tells_cs (tcB 0 rfl rfl pinV (tcB 2 rfl rfl pinV (tc0)))) ?_
 refine T2 (i := 0) rfl (heldB 0 rfl ag_87 (E rfl rfl) rfl (fun _ _ => .v _)) ?_
 refine AWH.one (i := 1) (by kernel_rfl) rfl ?_
 refine yl ag_87 0 ?_
 refine AWL.nil (kpH (tcB 0 rfl rfl pinV (tcB 2 rfl rfl pinV (tc0))) ?_)
 refine AWH.one (i := 2) (by kernel_rfl) rfl ?_
 refine cE ce_87 [p87 b3 p, z93 b2, i3 b1 1] (BdE p bd18 A18 c18) rfl rfl rfl (cCell p (1 + 59) bd18 A18 c18 ok18 (by omega) 296) ?_
 rintro t53 S53 ⟨d19, bd19, A19, c19, e19, ok19, rfl, rfl⟩
 refine AWL.nil (kpH (tcB 0 rfl rfl pinV (tcB 2 rfl rfl pinV (tc0))) ?_)
 refine AWH.one (i := 3) (by kernel_rfl) rfl ?_
 refine cE ce_76 [p87 b3 p, z93 b2, i3 b1 1] (BdE p bd19 A19 c19) rfl rfl rfl (cSetCell p (1 + 63) bd19 A19 c19 ok19 (by omega) 336 d19) ?_
 rintro t54 S54 ⟨d20, bd20, A20, c20, e20, ok20, rfl, rfl⟩
 refine AWL.nil (kpH (tcB 0 rfl rfl pinV (tcB 2 rfl rfl pinV (tc0))) ?_)
 refine AWH.done (by kernel_rfl) ?_
 refine rs (yl ag_87 0 ?_)
 refine yl ag_3 2 ?_
 refine Y1 (Yv.addN_i64 rfl eV eV (fun hg => by omega)) ?_
 refine ym ?_
 refine AWL.buildSlice1 rfl rfl (B rfl) rfl el_35 rfl (evsC (E rfl rfl) evs0) nB rfl rfl ?_
 refine cE ce_33 [p87 b3 p, z93 b2, i3 b1 1] (BdE p bd20 A20 c20) rfl rfl rfl (cCall p (1 + 66) bd20 A20 c20 ok20 (by omega) ((1 + 10)) [d17]) ?_
 rintro t60 S60 ⟨d21, bd21, A21, c21, e21, ok21, rfl, rfl⟩
 refine nl ?_
 refine AW.rseqH (HeldCs [(b3, 0, Value.pointer (some ⟨p, 0, none⟩)), (b1, 0, Value.int .i64 (1))]) rfl (tells_cs (tcB 0 rfl rfl pinV (tcB 2 rfl rfl pinV (tc0)))) ?_
 refine T2 (i := 0) rfl (heldB 0 rfl ag_87 (E rfl rfl) rfl (fun _ _ => .v _)) ?_
 refine AWH.one (i := 1) (by kernel_rfl) rfl ?_
 refine yl ag_87 0 ?_
 refine AWL.nil (kpH (tcB 0 rfl rfl pinV (tcB 2 rfl rfl pinV (tc0))) ?_)
 refine AWH.one (i := 2) (by kernel_rfl) rfl ?_
 refine cE ce_87 [p87 b3 p, z93 b2, i3 b1 1] (BdE p bd21 A21 c21) rfl rfl rfl (cCell p (1 + 68) bd21 A21 c21 ok21 (by omega) 328) ?_
 rintro t63 S63 ⟨d22, bd22, A22, c22, e22, ok22, rfl, rfl⟩
 refine AWL.nil (kpH (tcB 0 rfl rfl pinV (tcB 2 rfl rfl pinV (tc0))) ?_)
 refine AWH.one (i := 3) (by kernel_rfl) rfl ?_
 refine cE ce_76 [p87 b3 p, z93 b2, i3 b1 1] (BdE p bd22 A22 c22) rfl rfl rfl (cSetCell p (1 + 72) bd22 A22 c22 ok22 (by omega) 288 d22) ?_
 rintro t64 S64 ⟨d23, bd23, A23, c23, e23, ok23, rfl, rfl⟩
 refine AWL.nil (kpH (tcB 0 rfl rfl pinV (tcB 2 rfl rfl pinV (tc0))) ?_)
 refine AWH.done (by kernel_rfl) ?_
 refine rs (yl ag_87 0 ?_)
 refine cE ce_95 [p87 b3 p, z93 b2, i3 b1 1] (BdE p bd23 A23 c23) rfl rfl rfl (cEmptied p (1 + 75) bd23 A23 c23 ok23 (by omega) ) ?_
 rintro t66 S66 ⟨d24, bd24, A24, c24, e24, ok24, rfl, rfl⟩
 refine nl ?_
 refine rs (yl ag_87 0 ?_)
 refine cE ce_34 [p87 b3 p, z93 b2, i3 b1 1] (BdE p bd24 A24 c24) rfl rfl rfl (cRetC p (1 + 82) bd24 A24 c24 ok24 (by omega) 1) ?_
 rintro t68 S68 ⟨d25, bd25, A25, c25, e25, ok25, rfl, rfl⟩
 refine nl ?_
 refine rs (yl ag_87 0 ?_)
 refine cE ce_35 [p87 b3 p, z93 b2, i3 b1 1] (BdE p bd25 A25 c25) rfl rfl rfl (cDone p bd25 A25 c25) ?_
 rintro t70 S70 ⟨rfl, rfl⟩
 refine AWL.storeBox (i := 1) rfl rfl rfl ag_93 rfl (E rfl rfl) (E rfl rfl) rfl rfl nB (nl ?_)
 refine AW.ret (retI (.cellA (i := 1) rfl ag_93 rfl rfl rfl .nil) ?_)
 show _ = T.agg (fnCells (fnB (mMinorFn (bd0 [103, 99, 46, 109, 105, 110, 111, 114] 0)).2))
 rw [show mMinorFn (bd0 [103, 99, 46, 109, 105, 110, 111, 114] 0) = ((), bd25) from (bq e1).trans ((bq e2).trans ((bq e3).trans ((bq e4).trans ((bq e5).trans ((bq e6).trans ((bq e7).trans ((bq e8).trans ((bq e9).trans ((bq e10).trans ((bq e11).trans ((bq e12).trans ((bq e13).trans ((bq e14).trans ((bq e15).trans ((bq e16).trans ((bq e17).trans ((bq e18).trans ((bq e19).trans ((bq e20).trans ((bq e21).trans ((bq e22).trans ((bq e23).trans ((bq e24).trans (e25))))))))))))))))))))))))]
 rfl

theorem cMinorFn : ACalls Tryz.prog 56 [zi 1] [] (fun t S => t = .agg (fnCells fMinorFn) ∧ S = []) := (cMinorFn_).less fun t S' h => ⟨[], List.nil_sublist _, h, rfl⟩
def mMajorFn : BM Unit :=
 bnd (mCell (312)) fun d1 =>
 bnd (mWhile (5) (mMajor1 (d1)) (mMajor2 (d1))) fun _ =>
 bnd (mCell (312)) fun d3 =>
 bnd (mSetCell (320) (d3)) fun _ =>
 bnd (mCell (256)) fun d5 =>
 bnd (mSetCell (344) (d5)) fun _ =>
 bnd (mCell (272)) fun d7 =>
 bnd (mCell (256)) fun d8 =>
 bnd (mSub (d7) (d8)) fun d9 =>
 bnd (mSetCell (352) (d9)) fun _ =>
 bnd (mCell (280)) fun d11 =>
 bnd (mSetCell (360) (d11)) fun _ =>
 bnd (mCell (376)) fun d13 =>
 bnd (mSetCell (368) (d13)) fun _ =>
 bnd (mCell (304)) fun d15 =>
 bnd (mSetCell (328) (d15)) fun _ =>
 bnd (mCell (376)) fun d17 =>
 bnd (mAdd (d15) (d17)) fun d18 =>
 bnd (mSetCell (336) (d18)) fun _ =>
 bnd (mCall ((1 + 10)) [d15]) fun d20 =>
 bnd (mCell (280)) fun d21 =>
 bnd (mCell (304)) fun d22 =>
 bnd (mSetCell (280) (d22)) fun _ =>
 bnd (mSetCell (304) (d21)) fun _ =>
 bnd (mCell (328)) fun d25 =>
 bnd (mSetCell (288) (d25)) fun _ =>
 bnd (mCell (376)) fun d27 =>
 bnd (mAdd (d22) (d27)) fun d28 =>
 bnd (mSetCell (296) (d28)) fun _ =>
 bnd (mEmptied ) fun _ =>
 mRetC (1)
def fMajorFn : Fn := fnB (mMajorFn (bd0 [103, 99, 46, 109, 97, 106, 111, 114] 0)).2
set_option maxHeartbeats 16000000 in
theorem cMajorFn_  :
    ACalls Tryz.prog 57 [zi 1] [] (fun t S => t = .agg (fnCells (fMajorFn))) := by
 refine ACalls.intro Tryz.func57 rfl Tryz.ntmps57 nB rfl fun X w0 => ?_
 refine rs ?_
 refine AWL.allocOp rfl rfl (B rfl) rfl zc_93 (fun b2 => ?_)
 refine AWL.perm (List.perm_append_singleton _ _).symm (nl ?_)
 refine rs ?_
 refine cE ce_32 [z93 b2] [] rfl rfl rfl (cNew [103, 99, 46, 109, 97, 106, 111, 114] 0) ?_
 rintro t8 S8 ⟨p, rfl, rfl⟩
 have ok0 : BdOk 1 (bd0 [103, 99, 46, 109, 97, 106, 111, 114] 0) := ⟨by decide, by decide, by decide, by decide, by decide, by decide, by decide⟩
 refine AWL.allocOp rfl rfl (B rfl) rfl zc_87 (fun b3 => ?_)
 refine AWL.perm (List.perm_append_singleton _ _).symm ?_
 refine AWL.storeBox (i := 0) rfl rfl rfl ag_87 rfl (E rfl rfl) (E rfl rfl) rfl rfl nB (nl ?_)
 refine rs (yl ag_87 0 ?_)
 refine cE ce_87 [p87 b3 p, z93 b2] (BdE p (bd0 [103, 99, 46, 109, 97, 106, 111, 114] 0) none 0) rfl rfl rfl (cCell p 1 (bd0 [103, 99, 46, 109, 97, 106, 111, 114] 0) none 0 ok0 (by omega) 312) ?_
 rintro t10 S10 ⟨d1, bd1, A1, c1, e1, ok1, rfl, rfl⟩
 refine AWL.allocOp rfl rfl (B rfl) rfl zc_3 (fun b4 => ?_)
 refine AWL.perm (List.perm_append_singleton _ _).symm ?_
 refine AWL.storeBox (i := 0) rfl rfl rfl ag_3 rfl (E rfl rfl) (E rfl rfl) rfl rfl nB (nl ?_)
 refine rs (yl ag_87 1 ?_)
 refine Y1 (Yv.makeFunc rfl evs0 rfl (evsC eV (evsC eV evs0)) rfl) ?_
 refine Y1 (Yv.makeFunc rfl evs0 rfl (evsC eV (evsC eV evs0)) rfl) ?_
 refine cA ce_96 rfl rfl rfl (cWhile p (1 + 4) 12 4 bd1 A1 c1 ok1 (by omega) 5 97 98 #[.pointer (some ⟨b4, 0, none⟩), .pointer (some ⟨b3, 0, none⟩)] #[.pointer (some ⟨b3, 0, none⟩), .pointer (some ⟨b4, 0, none⟩)] [i3 b4 d1, p87 b3 p, z93 b2] (mMajor1 d1) (mMajor2 d1) ce_97 ce_98 (fun bd9 A9 c9 ok9 => cMajor1 p _ bd9 A9 c9 ok9 (by omega) [i3 b4 d1, p87 b3 p, z93 b2] 0 b4 d1 rfl 1 b3 rfl) (fun bd9 A9 c9 ok9 => cMajor2 p _ bd9 A9 c9 ok9 (by omega) [i3 b4 d1, p87 b3 p, z93 b2] 1 b3 rfl 0 b4 d1 rfl)) ?_
 rintro t14 S14 ⟨rfl, bd2, A2, c2, e2, ok2, rfl⟩
 refine nl ?_
 refine AW.rseqH (HeldCs [(b4, 0, Value.int .i64 (d1)), (b3, 0, Value.pointer (some ⟨p, 0, none⟩))]) rfl (tells_cs (tcB 0 rfl rfl pinV (tcB 1 rfl rfl pinV (tc0)))) ?_
 refine T2 (i := 0) rfl (heldB 1 rfl ag_87 (E rfl rfl) rfl (fun _ _ => .v _)) ?_
 refine AWH.one (i := 1) (by kernel_rfl) rfl ?_
 refine yl ag_87 1 ?_
 refine AWL.nil (kpH (tcB 0 rfl rfl pinV (tcB 1 rfl rfl pinV (tc0))) ?_)
 refine AWH.one (i := 2) (by kernel_rfl) rfl ?_
 refine cE ce_87 [i3 b4 d1, p87 b3 p, z93 b2] (BdE p bd2 A2 c2) rfl rfl rfl (cCell p (1 + 26) bd2 A2 c2 ok2 (by omega) 312) ?_
 rintro t17 S17 ⟨d3, bd3, A3, c3, e3, ok3, rfl, rfl⟩
 refine AWL.nil (kpH (tcB 0 rfl rfl pinV (tcB 1 rfl rfl pinV (tc0))) ?_)
 refine AWH.one (i := 3) (by kernel_rfl) rfl ?_
 refine cE ce_76 [i3 b4 d1, p87 b3 p, z93 b2] (BdE p bd3 A3 c3) rfl rfl rfl (cSetCell p (1 + 30) bd3 A3 c3 ok3 (by omega) 320 d3) ?_
 rintro t18 S18 ⟨d4, bd4, A4, c4, e4, ok4, rfl, rfl⟩
 refine AWL.nil (kpH (tcB 0 rfl rfl pinV (tcB 1 rfl rfl pinV (tc0))) ?_)
 refine AWH.done (by kernel_rfl) ?_
 refine AW.rseqH (HeldCs [(b4, 0, Value.int .i64 (d1)), (b3, 0, Value.pointer (some ⟨p, 0, none⟩))]) rfl (tells_cs (tcB 0 rfl rfl pinV (tcB 1 rfl rfl pinV (tc0)))) ?_
 refine T2 (i := 0) rfl (heldB 1 rfl ag_87 (E rfl rfl) rfl (fun _ _ => .v _)) ?_
 refine AWH.one (i := 1) (by kernel_rfl) rfl ?_
 refine yl ag_87 1 ?_
 refine AWL.nil (kpH (tcB 0 rfl rfl pinV (tcB 1 rfl rfl pinV (tc0))) ?_)
 refine AWH.one (i := 2) (by kernel_rfl) rfl ?_
 refine cE ce_87 [i3 b4 d1, p87 b3 p, z93 b2] (BdE p bd4 A4 c4) rfl rfl rfl (cCell p (1 + 33) bd4 A4 c4 ok4 (by omega) 256) ?_
 rintro t21 S21 ⟨d5, bd5, A5, c5, e5, ok5, rfl, rfl⟩
 refine AWL.nil (kpH (tcB 0 rfl rfl pinV (tcB 1 rfl rfl pinV (tc0))) ?_)
 refine AWH.one (i := 3) (by kernel_rfl) rfl ?_
 refine cE ce_76 [i3 b4 d1, p87 b3 p, z93 b2] (BdE p bd5 A5 c5) rfl rfl rfl (cSetCell p (1 + 37) bd5 A5 c5 ok5 (by omega) 344 d5) ?_
 rintro t22 S22 ⟨d6, bd6, A6, c6, e6, ok6, rfl, rfl⟩
 refine AWL.nil (kpH (tcB 0 rfl rfl pinV (tcB 1 rfl rfl pinV (tc0))) ?_)
 refine AWH.done (by kernel_rfl) ?_
 refine AW.rseqH (HeldCs [(b4, 0, Value.int .i64 (d1)), (b3, 0, Value.pointer (some ⟨p, 0, none⟩))]) rfl (tells_cs (tcB 0 rfl rfl pinV (tcB 1 rfl rfl pinV (tc0)))) ?_
 refine T2 (i := 0) rfl (heldB 1 rfl ag_87 (E rfl rfl) rfl (fun _ _ => .v _)) ?_
 refine T2 (i := 1) rfl (heldB 1 rfl ag_87 (E rfl rfl) rfl (fun _ _ => .v _)) ?_
 refine T2 (i := 2) rfl (heldB 1 rfl ag_87 (E rfl rfl) rfl (fun _ _ => .v _)) ?_
 refine T2 (i := 4) rfl (heldB 1 rfl ag_87 (E rfl rfl) rfl (fun _ _ => .v _)) ?_
 refine AWH.one (i := 3) (by kernel_rfl) rfl ?_
 refine cE ce_87 [i3 b4 d1, p87 b3 p, z93 b2] (BdE p bd6 A6 c6) rfl rfl rfl (cCell p (1 + 40) bd6 A6 c6 ok6 (by omega) 272) ?_
 rintro t26 S26 ⟨d7, bd7, A7, c7, e7, ok7, rfl, rfl⟩
 refine AWL.nil (kpH (tcB 0 rfl rfl pinV (tcB 1 rfl rfl pinV (tc0))) ?_)
 refine AWH.one (i := 5) (by kernel_rfl) rfl ?_
 refine cE ce_87 [i3 b4 d1, p87 b3 p, z93 b2] (BdE p bd7 A7 c7) rfl rfl rfl (cCell p (1 + 44) bd7 A7 c7 ok7 (by omega) 256) ?_
 rintro t28 S28 ⟨d8, bd8, A8, c8, e8, ok8, rfl, rfl⟩
 refine AWL.nil (kpH (tcB 0 rfl rfl pinV (tcB 1 rfl rfl pinV (tc0))) ?_)
 refine AWH.one (i := 6) (by kernel_rfl) rfl ?_
 refine cE ce_86 [i3 b4 d1, p87 b3 p, z93 b2] (BdE p bd8 A8 c8) rfl rfl rfl (cSub p (1 + 48) bd8 A8 c8 ok8 (by omega) d7 d8) ?_
 rintro t29 S29 ⟨d9, bd9, A9, c9, e9, ok9, rfl, rfl⟩
 refine AWL.nil (kpH (tcB 0 rfl rfl pinV (tcB 1 rfl rfl pinV (tc0))) ?_)
 refine AWH.one (i := 7) (by kernel_rfl) rfl ?_
 refine cE ce_76 [i3 b4 d1, p87 b3 p, z93 b2] (BdE p bd9 A9 c9) rfl rfl rfl (cSetCell p (1 + 50) bd9 A9 c9 ok9 (by omega) 352 d9) ?_
 rintro t30 S30 ⟨d10, bd10, A10, c10, e10, ok10, rfl, rfl⟩
 refine AWL.nil (kpH (tcB 0 rfl rfl pinV (tcB 1 rfl rfl pinV (tc0))) ?_)
 refine AWH.done (by kernel_rfl) ?_
 refine AW.rseqH (HeldCs [(b4, 0, Value.int .i64 (d1)), (b3, 0, Value.pointer (some ⟨p, 0, none⟩))]) rfl (tells_cs (tcB 0 rfl rfl pinV (tcB 1 rfl rfl pinV (tc0)))) ?_
 refine T2 (i := 0) rfl (heldB 1 rfl ag_87 (E rfl rfl) rfl (fun _ _ => .v _)) ?_
 refine AWH.one (i := 1) (by kernel_rfl) rfl ?_
 refine yl ag_87 1 ?_
 refine AWL.nil (kpH (tcB 0 rfl rfl pinV (tcB 1 rfl rfl pinV (tc0))) ?_)
 refine AWH.one (i := 2) (by kernel_rfl) rfl ?_
 refine cE ce_87 [i3 b4 d1, p87 b3 p, z93 b2] (BdE p bd10 A10 c10) rfl rfl rfl (cCell p (1 + 53) bd10 A10 c10 ok10 (by omega) 280) ?_
 rintro t33 S33 ⟨d11, bd11, A11, c11, e11, ok11, rfl, rfl⟩
 refine AWL.nil (kpH (tcB 0 rfl rfl pinV (tcB 1 rfl rfl pinV (tc0))) ?_)
 refine AWH.one (i := 3) (by kernel_rfl) rfl ?_
 refine cE ce_76 [i3 b4 d1, p87 b3 p, z93 b2] (BdE p bd11 A11 c11) rfl rfl rfl (cSetCell p (1 + 57) bd11 A11 c11 ok11 (by omega) 360 d11) ?_
 rintro t34 S34 ⟨d12, bd12, A12, c12, e12, ok12, rfl, rfl⟩
 refine AWL.nil (kpH (tcB 0 rfl rfl pinV (tcB 1 rfl rfl pinV (tc0))) ?_)
 refine AWH.done (by kernel_rfl) ?_
 refine AW.rseqH (HeldCs [(b4, 0, Value.int .i64 (d1)), (b3, 0, Value.pointer (some ⟨p, 0, none⟩))]) rfl (tells_cs (tcB 0 rfl rfl pinV (tcB 1 rfl rfl pinV (tc0)))) ?_
 refine T2 (i := 0) rfl (heldB 1 rfl ag_87 (E rfl rfl) rfl (fun _ _ => .v _)) ?_
 refine AWH.one (i := 1) (by kernel_rfl) rfl ?_
 refine yl ag_87 1 ?_
 refine AWL.nil (kpH (tcB 0 rfl rfl pinV (tcB 1 rfl rfl pinV (tc0))) ?_)
 refine AWH.one (i := 2) (by kernel_rfl) rfl ?_
 refine cE ce_87 [i3 b4 d1, p87 b3 p, z93 b2] (BdE p bd12 A12 c12) rfl rfl rfl (cCell p (1 + 60) bd12 A12 c12 ok12 (by omega) 376) ?_
 rintro t37 S37 ⟨d13, bd13, A13, c13, e13, ok13, rfl, rfl⟩
 refine AWL.nil (kpH (tcB 0 rfl rfl pinV (tcB 1 rfl rfl pinV (tc0))) ?_)
 refine AWH.one (i := 3) (by kernel_rfl) rfl ?_
 refine cE ce_76 [i3 b4 d1, p87 b3 p, z93 b2] (BdE p bd13 A13 c13) rfl rfl rfl (cSetCell p (1 + 64) bd13 A13 c13 ok13 (by omega) 368 d13) ?_
 rintro t38 S38 ⟨d14, bd14, A14, c14, e14, ok14, rfl, rfl⟩
 refine AWL.nil (kpH (tcB 0 rfl rfl pinV (tcB 1 rfl rfl pinV (tc0))) ?_)
 refine AWH.done (by kernel_rfl) ?_
 refine rs (yl ag_87 1 ?_)
 refine cE ce_87 [i3 b4 d1, p87 b3 p, z93 b2] (BdE p bd14 A14 c14) rfl rfl rfl (cCell p (1 + 67) bd14 A14 c14 ok14 (by omega) 304) ?_
 rintro t40 S40 ⟨d15, bd15, A15, c15, e15, ok15, rfl, rfl⟩
 refine ya ?_
 refine rs (yl ag_87 1 ?_)
 refine ym ?_
 refine cE ce_76 [i3 b4 d1, p87 b3 p, z93 b2] (BdE p bd15 A15 c15) rfl rfl rfl (cSetCell p (1 + 71) bd15 A15 c15 ok15 (by omega) 328 d15) ?_
 rintro t43 S43 ⟨d16, bd16, A16, c16, e16, ok16, rfl, rfl⟩
 refine nl ?_
 refine AW.rseqH (HeldCs [(b4, 0, Value.int .i64 (d1)), (b3, 0, Value.pointer (some ⟨p, 0, none⟩))]) rfl (tells_cs (tcB 0 rfl rfl pinV (tcB 1 rfl rfl pinV (tc0)))) ?_
 refine T2 (i := 0) rfl (heldB 1 rfl ag_87 (E rfl rfl) rfl (fun _ _ => .v _)) ?_
 refine T2 (i := 1) rfl (heldB 1 rfl ag_87 (E rfl rfl) rfl (fun _ _ => .v _)) ?_
 refine T2 (i := 2) rfl (heldAll (freeMove rfl (E rfl rfl))) ?_
 refine AWH.one (i := 3) (by kernel_rfl) rfl ?_
 refine yl ag_87 1 ?_
 refine AWL.nil (kpH (tcB 0 rfl rfl pinV (tcB 1 rfl rfl pinV (tc0))) ?_)
 refine AWH.one (i := 4) (by kernel_rfl) rfl ?_
 refine cE ce_87 [i3 b4 d1, p87 b3 p, z93 b2] (BdE p bd16 A16 c16) rfl rfl rfl (cCell p (1 + 74) bd16 A16 c16 ok16 (by omega) 376) ?_
 rintro t48 S48 ⟨d17, bd17, A17, c17, e17, ok17, rfl, rfl⟩
 refine AWL.nil (kpH (tcB 0 rfl rfl pinV (tcB 1 rfl rfl pinV (tc0))) ?_)
 refine AWH.one (i := 5) (by kernel_rfl) rfl ?_
 refine cE ce_83 [i3 b4 d1, p87 b3 p, z93 b2] (BdE p bd17 A17 c17) rfl rfl rfl (cAdd p (1 + 78) bd17 A17 c17 ok17 (by omega) d15 d17) ?_
 rintro t49 S49 ⟨d18, bd18, A18, c18, e18, ok18, rfl, rfl⟩
 refine AWL.nil (kpH (tcB 0 rfl rfl pinV (tcB 1 rfl rfl pinV (tc0))) ?_)
 refine AWH.one (i := 6) (by kernel_rfl) rfl ?_
 refine cE ce_76 [i3 b4 d1, p87 b3 p, z93 b2] (BdE p bd18 A18 c18) rfl rfl rfl (cSetCell p (1 + 80) bd18 A18 c18 ok18 (by omega) 336 d18) ?_
 rintro t50 S50 ⟨d19, bd19, A19, c19, e19, ok19, rfl, rfl⟩
 refine AWL.nil (kpH (tcB 0 rfl rfl pinV (tcB 1 rfl rfl pinV (tc0))) ?_)
 refine AWH.done (by kernel_rfl) ?_
 refine rs (yl ag_87 1 ?_)
 refine ym ?_
 refine Y1 (Yv.addN_i64 rfl eV eV (fun hg => by omega)) ?_
 refine ym ?_
 refine AWL.buildSlice1 rfl rfl (B rfl) rfl el_35 rfl (evsC (E rfl rfl) evs0) nB rfl rfl ?_
 refine cE ce_33 [i3 b4 d1, p87 b3 p, z93 b2] (BdE p bd19 A19 c19) rfl rfl rfl (cCall p (1 + 83) bd19 A19 c19 ok19 (by omega) ((1 + 10)) [d15]) ?_
 rintro t56 S56 ⟨d20, bd20, A20, c20, e20, ok20, rfl, rfl⟩
 refine nl ?_
 refine rs (yl ag_87 1 ?_)
 refine cE ce_87 [i3 b4 d1, p87 b3 p, z93 b2] (BdE p bd20 A20 c20) rfl rfl rfl (cCell p (1 + 85) bd20 A20 c20 ok20 (by omega) 280) ?_
 rintro t58 S58 ⟨d21, bd21, A21, c21, e21, ok21, rfl, rfl⟩
 refine ya ?_
 refine rs (yl ag_87 1 ?_)
 refine cE ce_87 [i3 b4 d1, p87 b3 p, z93 b2] (BdE p bd21 A21 c21) rfl rfl rfl (cCell p (1 + 89) bd21 A21 c21 ok21 (by omega) 304) ?_
 rintro t60 S60 ⟨d22, bd22, A22, c22, e22, ok22, rfl, rfl⟩
 refine ya ?_
 refine rs (yl ag_87 1 ?_)
 refine ym ?_
 refine cE ce_76 [i3 b4 d1, p87 b3 p, z93 b2] (BdE p bd22 A22 c22) rfl rfl rfl (cSetCell p (1 + 93) bd22 A22 c22 ok22 (by omega) 280 d22) ?_
 rintro t63 S63 ⟨d23, bd23, A23, c23, e23, ok23, rfl, rfl⟩
 refine nl ?_
 refine rs (yl ag_87 1 ?_)
 refine ym ?_
 refine cE ce_76 [i3 b4 d1, p87 b3 p, z93 b2] (BdE p bd23 A23 c23) rfl rfl rfl (cSetCell p (1 + 96) bd23 A23 c23 ok23 (by omega) 304 d21) ?_
 rintro t66 S66 ⟨d24, bd24, A24, c24, e24, ok24, rfl, rfl⟩
 refine nl ?_
 refine AW.rseqH (HeldCs [(b4, 0, Value.int .i64 (d1)), (b3, 0, Value.pointer (some ⟨p, 0, none⟩))]) rfl (tells_cs (tcB 0 rfl rfl pinV (tcB 1 rfl rfl pinV (tc0)))) ?_
 refine T2 (i := 0) rfl (heldB 1 rfl ag_87 (E rfl rfl) rfl (fun _ _ => .v _)) ?_
 refine AWH.one (i := 1) (by kernel_rfl) rfl ?_
 refine yl ag_87 1 ?_
 refine AWL.nil (kpH (tcB 0 rfl rfl pinV (tcB 1 rfl rfl pinV (tc0))) ?_)
 refine AWH.one (i := 2) (by kernel_rfl) rfl ?_
 refine cE ce_87 [i3 b4 d1, p87 b3 p, z93 b2] (BdE p bd24 A24 c24) rfl rfl rfl (cCell p (1 + 99) bd24 A24 c24 ok24 (by omega) 328) ?_
 rintro t69 S69 ⟨d25, bd25, A25, c25, e25, ok25, rfl, rfl⟩
 refine AWL.nil (kpH (tcB 0 rfl rfl pinV (tcB 1 rfl rfl pinV (tc0))) ?_)
 refine AWH.one (i := 3) (by kernel_rfl) rfl ?_
 refine cE ce_76 [i3 b4 d1, p87 b3 p, z93 b2] (BdE p bd25 A25 c25) rfl rfl rfl (cSetCell p (1 + 103) bd25 A25 c25 ok25 (by omega) 288 d25) ?_
 rintro t70 S70 ⟨d26, bd26, A26, c26, e26, ok26, rfl, rfl⟩
 refine AWL.nil (kpH (tcB 0 rfl rfl pinV (tcB 1 rfl rfl pinV (tc0))) ?_)
 refine AWH.done (by kernel_rfl) ?_
 refine AW.rseqH (HeldCs [(b4, 0, Value.int .i64 (d1)), (b3, 0, Value.pointer (some ⟨p, 0, none⟩))]) rfl (tells_cs (tcB 0 rfl rfl pinV (tcB 1 rfl rfl pinV (tc0)))) ?_
 refine T2 (i := 0) rfl (heldB 1 rfl ag_87 (E rfl rfl) rfl (fun _ _ => .v _)) ?_
 refine T2 (i := 1) rfl (heldB 1 rfl ag_87 (E rfl rfl) rfl (fun _ _ => .v _)) ?_
 refine T2 (i := 2) rfl (heldAll (freeMove rfl (E rfl rfl))) ?_
 refine AWH.one (i := 3) (by kernel_rfl) rfl ?_
 refine yl ag_87 1 ?_
 refine AWL.nil (kpH (tcB 0 rfl rfl pinV (tcB 1 rfl rfl pinV (tc0))) ?_)
 refine AWH.one (i := 4) (by kernel_rfl) rfl ?_
 refine cE ce_87 [i3 b4 d1, p87 b3 p, z93 b2] (BdE p bd26 A26 c26) rfl rfl rfl (cCell p (1 + 106) bd26 A26 c26 ok26 (by omega) 376) ?_
 rintro t75 S75 ⟨d27, bd27, A27, c27, e27, ok27, rfl, rfl⟩
 refine AWL.nil (kpH (tcB 0 rfl rfl pinV (tcB 1 rfl rfl pinV (tc0))) ?_)
 refine AWH.one (i := 5) (by kernel_rfl) rfl ?_
 refine cE ce_83 [i3 b4 d1, p87 b3 p, z93 b2] (BdE p bd27 A27 c27) rfl rfl rfl (cAdd p (1 + 110) bd27 A27 c27 ok27 (by omega) d22 d27) ?_
 rintro t76 S76 ⟨d28, bd28, A28, c28, e28, ok28, rfl, rfl⟩
 refine AWL.nil (kpH (tcB 0 rfl rfl pinV (tcB 1 rfl rfl pinV (tc0))) ?_)
 refine AWH.one (i := 6) (by kernel_rfl) rfl ?_
 refine cE ce_76 [i3 b4 d1, p87 b3 p, z93 b2] (BdE p bd28 A28 c28) rfl rfl rfl (cSetCell p (1 + 112) bd28 A28 c28 ok28 (by omega) 296 d28) ?_
 rintro t77 S77 ⟨d29, bd29, A29, c29, e29, ok29, rfl, rfl⟩
 refine AWL.nil (kpH (tcB 0 rfl rfl pinV (tcB 1 rfl rfl pinV (tc0))) ?_)
 refine AWH.done (by kernel_rfl) ?_
 refine rs (yl ag_87 1 ?_)
 refine cE ce_95 [i3 b4 d1, p87 b3 p, z93 b2] (BdE p bd29 A29 c29) rfl rfl rfl (cEmptied p (1 + 115) bd29 A29 c29 ok29 (by omega) ) ?_
 rintro t79 S79 ⟨d30, bd30, A30, c30, e30, ok30, rfl, rfl⟩
 refine nl ?_
 refine rs (yl ag_87 1 ?_)
 refine cE ce_34 [i3 b4 d1, p87 b3 p, z93 b2] (BdE p bd30 A30 c30) rfl rfl rfl (cRetC p (1 + 122) bd30 A30 c30 ok30 (by omega) 1) ?_
 rintro t81 S81 ⟨d31, bd31, A31, c31, e31, ok31, rfl, rfl⟩
 refine nl ?_
 refine rs (yl ag_87 1 ?_)
 refine cE ce_35 [i3 b4 d1, p87 b3 p, z93 b2] (BdE p bd31 A31 c31) rfl rfl rfl (cDone p bd31 A31 c31) ?_
 rintro t83 S83 ⟨rfl, rfl⟩
 refine AWL.storeBox (i := 2) rfl rfl rfl ag_93 rfl (E rfl rfl) (E rfl rfl) rfl rfl nB (nl ?_)
 refine AW.ret (retI (.cellA (i := 2) rfl ag_93 rfl rfl rfl .nil) ?_)
 show _ = T.agg (fnCells (fnB (mMajorFn (bd0 [103, 99, 46, 109, 97, 106, 111, 114] 0)).2))
 rw [show mMajorFn (bd0 [103, 99, 46, 109, 97, 106, 111, 114] 0) = ((), bd31) from (bq e1).trans ((bq e2).trans ((bq e3).trans ((bq e4).trans ((bq e5).trans ((bq e6).trans ((bq e7).trans ((bq e8).trans ((bq e9).trans ((bq e10).trans ((bq e11).trans ((bq e12).trans ((bq e13).trans ((bq e14).trans ((bq e15).trans ((bq e16).trans ((bq e17).trans ((bq e18).trans ((bq e19).trans ((bq e20).trans ((bq e21).trans ((bq e22).trans ((bq e23).trans ((bq e24).trans ((bq e25).trans ((bq e26).trans ((bq e27).trans ((bq e28).trans ((bq e29).trans ((bq e30).trans (e31))))))))))))))))))))))))))))))]
 rfl

theorem cMajorFn : ACalls Tryz.prog 57 [zi 1] [] (fun t S => t = .agg (fnCells fMajorFn) ∧ S = []) := (cMajorFn_).less fun t S' h => ⟨[], List.nil_sublist _, h, rfl⟩
def mMarkFn : BM Unit :=
 bnd (mCell (280)) fun d1 =>
 bnd (mSub (0) (d1)) fun d2 =>
 bnd (mCell (376)) fun d3 =>
 bnd (mThen (5) (d2) (d3) (mMark1 (0))) fun _ =>
 mRetC (1)
def fMarkFn : Fn := fnB (mMarkFn (bd0 [103, 99, 46, 109, 97, 114, 107] 1)).2
set_option maxHeartbeats 16000000 in
theorem cMarkFn_  :
    ACalls Tryz.prog 58 [] [] (fun t S => t = .agg (fnCells (fMarkFn))) := by
 refine ACalls.intro Tryz.func58 rfl Tryz.ntmps58 nB rfl fun X w0 => ?_
 refine rs ?_
 refine AWL.allocOp rfl rfl (B rfl) rfl zc_93 (fun b0 => ?_)
 refine AWL.perm (List.perm_append_singleton _ _).symm (nl ?_)
 refine rs ?_
 refine cE ce_32 [z93 b0] [] rfl rfl rfl (cNew [103, 99, 46, 109, 97, 114, 107] 1) ?_
 rintro t3 S3 ⟨p, rfl, rfl⟩
 have ok0 : BdOk 1 (bd0 [103, 99, 46, 109, 97, 114, 107] 1) := ⟨by decide, by decide, by decide, by decide, by decide, by decide, by decide⟩
 refine AWL.allocOp rfl rfl (B rfl) rfl zc_87 (fun b1 => ?_)
 refine AWL.perm (List.perm_append_singleton _ _).symm ?_
 refine AWL.storeBox (i := 0) rfl rfl rfl ag_87 rfl (E rfl rfl) (E rfl rfl) rfl rfl nB (nl ?_)
 refine rs ?_
 refine AWL.allocOp rfl rfl (B rfl) rfl zc_3 (fun b2 => ?_)
 refine AWL.perm (List.perm_append_singleton _ _).symm ?_
 refine AWL.storeBox (i := 0) rfl rfl rfl ag_3 rfl (E rfl rfl) (E rfl rfl) rfl rfl nB (nl ?_)
 refine AW.rseqH (HeldCs [(b2, 0, Value.int .i64 (0)), (b1, 0, Value.pointer (some ⟨p, 0, none⟩))]) rfl (tells_cs (tcB 0 rfl rfl pinV (tcB 1 rfl rfl pinV (tc0)))) ?_
 refine T2 (i := 0) rfl (heldB 1 rfl ag_87 (E rfl rfl) rfl (fun _ _ => .v _)) ?_
 refine T2 (i := 1) rfl (heldB 1 rfl ag_87 (E rfl rfl) rfl (fun _ _ => .v _)) ?_
 refine T2 (i := 2) rfl (heldB 0 rfl ag_3 (E rfl rfl) rfl (fun _ _ => .v _)) ?_
 refine T2 (i := 3) rfl (heldB 1 rfl ag_87 (E rfl rfl) rfl (fun _ _ => .v _)) ?_
 refine T2 (i := 6) rfl (heldB 1 rfl ag_87 (E rfl rfl) rfl (fun _ _ => .v _)) ?_
 refine T2 (i := 8) rfl (heldAll (freeMk rfl evs0 rfl (evsC (E rfl rfl) (evsC (E rfl rfl) evs0)) rfl)) ?_
 refine AWH.one (i := 4) (by kernel_rfl) rfl ?_
 refine cE ce_87 [i3 b2 0, p87 b1 p, z93 b0] (BdE p (bd0 [103, 99, 46, 109, 97, 114, 107] 1) none 0) rfl rfl rfl (cCell p 1 (bd0 [103, 99, 46, 109, 97, 114, 107] 1) none 0 ok0 (by omega) 280) ?_
 rintro t8 S8 ⟨d1, bd1, A1, c1, e1, ok1, rfl, rfl⟩
 refine AWL.nil (kpH (tcB 0 rfl rfl pinV (tcB 1 rfl rfl pinV (tc0))) ?_)
 refine AWH.one (i := 5) (by kernel_rfl) rfl ?_
 refine cE ce_86 [i3 b2 0, p87 b1 p, z93 b0] (BdE p bd1 A1 c1) rfl rfl rfl (cSub p (1 + 4) bd1 A1 c1 ok1 (by omega) 0 d1) ?_
 rintro t9 S9 ⟨d2, bd2, A2, c2, e2, ok2, rfl, rfl⟩
 refine AWL.nil (kpH (tcB 0 rfl rfl pinV (tcB 1 rfl rfl pinV (tc0))) ?_)
 refine AWH.one (i := 7) (by kernel_rfl) rfl ?_
 refine cE ce_87 [i3 b2 0, p87 b1 p, z93 b0] (BdE p bd2 A2 c2) rfl rfl rfl (cCell p (1 + 6) bd2 A2 c2 ok2 (by omega) 376) ?_
 rintro t11 S11 ⟨d3, bd3, A3, c3, e3, ok3, rfl, rfl⟩
 refine AWL.nil (kpH (tcB 0 rfl rfl pinV (tcB 1 rfl rfl pinV (tc0))) ?_)
 refine AWH.one (i := 9) (by kernel_rfl) rfl ?_
 refine cA ce_80 rfl rfl rfl (cThen p (1 + 10) 40 bd3 A3 c3 ok3 (by omega) 5 d2 d3 101 #[.pointer (some ⟨b1, 0, none⟩), .pointer (some ⟨b2, 0, none⟩)] [i3 b2 0, p87 b1 p, z93 b0] (mMark1 0) ce_101 (fun bd9 A9 c9 ok9 => cMark1 p _ bd9 A9 c9 ok9 (by omega) [i3 b2 0, p87 b1 p, z93 b0] 1 b1 rfl 0 b2 0 rfl)) ?_
 rintro t13 S13 ⟨rfl, bd4, A4, c4, e4, ok4, rfl⟩
 refine AWL.nil (kpH (tcB 0 rfl rfl pinV (tcB 1 rfl rfl pinV (tc0))) ?_)
 refine AWH.done (by kernel_rfl) ?_
 refine rs (yl ag_87 1 ?_)
 refine cE ce_34 [i3 b2 0, p87 b1 p, z93 b0] (BdE p bd4 A4 c4) rfl rfl rfl (cRetC p (1 + 53) bd4 A4 c4 ok4 (by omega) 1) ?_
 rintro t15 S15 ⟨d5, bd5, A5, c5, e5, ok5, rfl, rfl⟩
 refine nl ?_
 refine rs (yl ag_87 1 ?_)
 refine cE ce_35 [i3 b2 0, p87 b1 p, z93 b0] (BdE p bd5 A5 c5) rfl rfl rfl (cDone p bd5 A5 c5) ?_
 rintro t17 S17 ⟨rfl, rfl⟩
 refine AWL.storeBox (i := 2) rfl rfl rfl ag_93 rfl (E rfl rfl) (E rfl rfl) rfl rfl nB (nl ?_)
 refine AW.ret (retI (.cellA (i := 2) rfl ag_93 rfl rfl rfl .nil) ?_)
 show _ = T.agg (fnCells (fnB (mMarkFn (bd0 [103, 99, 46, 109, 97, 114, 107] 1)).2))
 rw [show mMarkFn (bd0 [103, 99, 46, 109, 97, 114, 107] 1) = ((), bd5) from (bq e1).trans ((bq e2).trans ((bq e3).trans ((bq e4).trans (e5))))]
 rfl

theorem cMarkFn : ACalls Tryz.prog 58 [] [] (fun t S => t = .agg (fnCells fMarkFn) ∧ S = []) := (cMarkFn_).less fun t S' h => ⟨[], List.nil_sublist _, h, rfl⟩
def mCopiedFn : BM Unit :=
 bnd (mGet (0) (0)) fun d1 =>
 bnd (mAnd (d1) (1)) fun d2 =>
 bnd (mThenC (1) (d2) (0) (mCopied1 (d1))) fun _ =>
 bnd (mCall ((1 + 6)) [d1]) fun d4 =>
 bnd (mCell (328)) fun d5 =>
 bnd (mAdd (d5) (d4)) fun d6 =>
 bnd (mCell (336)) fun d7 =>
 bnd (mThen (5) (d7) (d6) (mCopied2 )) fun _ =>
 bnd (mSetCell (328) (d6)) fun _ =>
 bnd (mC (0)) fun d10 =>
 bnd (mWhile (3) (mCopied3 (d10) (d4)) (mCopied4 (d5) (d10) (0))) fun _ =>
 bnd (mGet (d5) (0)) fun d12 =>
 bnd (mAnd (d12) ((-33))) fun d13 =>
 bnd (mSave (d5) (0) (d13)) fun _ =>
 bnd (mSave (0) (0) (d5)) fun _ =>
 mRet (d5)
def fCopiedFn : Fn := fnB (mCopiedFn (bd0 [103, 99, 46, 99, 111, 112, 105, 101, 100] 1)).2
set_option maxHeartbeats 16000000 in
theorem cCopiedFn_  :
    ACalls Tryz.prog 61 [zi 1] [] (fun t S => t = .agg (fnCells (fCopiedFn))) := by
 refine ACalls.intro Tryz.func61 rfl Tryz.ntmps61 nB rfl fun X w0 => ?_
 refine rs ?_
 refine AWL.boxOp rfl rfl (B rfl) rfl (E rfl rfl) rfl (fun b1 => ?_)
 refine AWL.perm (List.perm_append_singleton _ _).symm ?_
 refine AWL.allocOp rfl rfl (B rfl) rfl zc_93 (fun b2 => ?_)
 refine AWL.perm (List.perm_append_singleton _ _).symm (nl ?_)
 refine rs ?_
 refine cE ce_32 [z93 b2, i3 b1 1] [] rfl rfl rfl (cNew [103, 99, 46, 99, 111, 112, 105, 101, 100] 1) ?_
 rintro t10 S10 ⟨p, rfl, rfl⟩
 have ok0 : BdOk 1 (bd0 [103, 99, 46, 99, 111, 112, 105, 101, 100] 1) := ⟨by decide, by decide, by decide, by decide, by decide, by decide, by decide⟩
 refine AWL.allocOp rfl rfl (B rfl) rfl zc_87 (fun b3 => ?_)
 refine AWL.perm (List.perm_append_singleton _ _).symm ?_
 refine AWL.storeBox (i := 0) rfl rfl rfl ag_87 rfl (E rfl rfl) (E rfl rfl) rfl rfl nB (nl ?_)
 refine rs ?_
 refine AWL.allocOp rfl rfl (B rfl) rfl zc_3 (fun b4 => ?_)
 refine AWL.perm (List.perm_append_singleton _ _).symm ?_
 refine AWL.storeBox (i := 0) rfl rfl rfl ag_3 rfl (E rfl rfl) (E rfl rfl) rfl rfl nB (nl ?_)
 refine rs (yl ag_87 1 ?_)
 refine yl ag_3 0 ?_
 refine cE ce_99 [i3 b4 0, p87 b3 p, z93 b2, i3 b1 1] (BdE p (bd0 [103, 99, 46, 99, 111, 112, 105, 101, 100] 1) none 0) rfl rfl rfl (cGet p 1 (bd0 [103, 99, 46, 99, 111, 112, 105, 101, 100] 1) none 0 ok0 (by omega) 0 0) ?_
 rintro t13 S13 ⟨d1, bd1, A1, c1, e1, ok1, rfl, rfl⟩
 refine AWL.allocOp rfl rfl (B rfl) rfl zc_3 (fun b5 => ?_)
 refine AWL.perm (List.perm_append_singleton _ _).symm ?_
 refine AWL.storeBox (i := 0) rfl rfl rfl ag_3 rfl (E rfl rfl) (E rfl rfl) rfl rfl nB (nl ?_)
 refine AW.rseqH (HeldCs [(b5, 0, Value.int .i64 (d1)), (b4, 0, Value.int .i64 (0)), (b3, 0, Value.pointer (some ⟨p, 0, none⟩)), (b1, 0, Value.int .i64 (1))]) rfl (tells_cs (tcB 0 rfl rfl pinV (tcB 1 rfl rfl pinV (tcB 2 rfl rfl pinV (tcB 4 rfl rfl pinV (tc0)))))) ?_
 refine T2 (i := 0) rfl (heldB 2 rfl ag_87 (E rfl rfl) rfl (fun _ _ => .v _)) ?_
 refine T2 (i := 1) rfl (heldB 2 rfl ag_87 (E rfl rfl) rfl (fun _ _ => .v _)) ?_
 refine T2 (i := 2) rfl (heldB 0 rfl ag_3 (E rfl rfl) rfl (fun _ _ => .v _)) ?_
 refine T2 (i := 4) rfl (heldAll (freeMk rfl evs0 rfl (evsC (E rfl rfl) (evsC (E rfl rfl) evs0)) rfl)) ?_
 refine AWH.one (i := 3) (by kernel_rfl) rfl ?_
 refine cE ce_100 [i3 b5 d1, i3 b4 0, p87 b3 p, z93 b2, i3 b1 1] (BdE p bd1 A1 c1) rfl rfl rfl (cAnd p (1 + 2) bd1 A1 c1 ok1 (by omega) d1 1) ?_
 rintro t17 S17 ⟨d2, bd2, A2, c2, e2, ok2, rfl, rfl⟩
 refine AWL.nil (kpH (tcB 0 rfl rfl pinV (tcB 1 rfl rfl pinV (tcB 2 rfl rfl pinV (tcB 4 rfl rfl pinV (tc0))))) ?_)
 refine AWH.one (i := 5) (by kernel_rfl) rfl ?_
 refine cA ce_102 rfl rfl rfl (cThenC p (1 + 6) 1 bd2 A2 c2 ok2 (by omega) 1 d2 0 108 #[.pointer (some ⟨b3, 0, none⟩), .pointer (some ⟨b5, 0, none⟩)] [i3 b5 d1, i3 b4 0, p87 b3 p, z93 b2, i3 b1 1] (mCopied1 d1) ce_108 (fun bd9 A9 c9 ok9 => cCopied1 p _ bd9 A9 c9 ok9 (by omega) [i3 b5 d1, i3 b4 0, p87 b3 p, z93 b2, i3 b1 1] 2 b3 rfl 0 b5 d1 rfl)) ?_
 rintro t19 S19 ⟨rfl, bd3, A3, c3, e3, ok3, rfl⟩
 refine AWL.nil (kpH (tcB 0 rfl rfl pinV (tcB 1 rfl rfl pinV (tcB 2 rfl rfl pinV (tcB 4 rfl rfl pinV (tc0))))) ?_)
 refine AWH.done (by kernel_rfl) ?_
 refine rs (yl ag_87 2 ?_)
 refine yl ag_3 4 ?_
 refine Y1 (Yv.addN_i64 rfl eV eV (fun hg => by omega)) ?_
 refine yl ag_3 0 ?_
 refine AWL.buildSlice1 rfl rfl (B rfl) rfl el_35 rfl (evsC (E rfl rfl) evs0) nB rfl rfl ?_
 refine cE ce_33 [i3 b5 d1, i3 b4 0, p87 b3 p, z93 b2, i3 b1 1] (BdE p bd3 A3 c3) rfl rfl rfl (cCall p (1 + 12) bd3 A3 c3 ok3 (by omega) ((1 + 6)) [d1]) ?_
 rintro t25 S25 ⟨d4, bd4, A4, c4, e4, ok4, rfl, rfl⟩
 refine AWL.allocOp rfl rfl (B rfl) rfl zc_3 (fun b6 => ?_)
 refine AWL.perm (List.perm_append_singleton _ _).symm ?_
 refine AWL.storeBox (i := 0) rfl rfl rfl ag_3 rfl (E rfl rfl) (E rfl rfl) rfl rfl nB (nl ?_)
 refine rs (yl ag_87 3 ?_)
 refine cE ce_87 [i3 b6 d4, i3 b5 d1, i3 b4 0, p87 b3 p, z93 b2, i3 b1 1] (BdE p bd4 A4 c4) rfl rfl rfl (cCell p (1 + 14) bd4 A4 c4 ok4 (by omega) 328) ?_
 rintro t27 S27 ⟨d5, bd5, A5, c5, e5, ok5, rfl, rfl⟩
 refine AWL.allocOp rfl rfl (B rfl) rfl zc_3 (fun b7 => ?_)
 refine AWL.perm (List.perm_append_singleton _ _).symm ?_
 refine AWL.storeBox (i := 0) rfl rfl rfl ag_3 rfl (E rfl rfl) (E rfl rfl) rfl rfl nB (nl ?_)
 refine rs (yl ag_87 4 ?_)
 refine yl ag_3 0 ?_
 refine yl ag_3 1 ?_
 refine cE ce_83 [i3 b7 d5, i3 b6 d4, i3 b5 d1, i3 b4 0, p87 b3 p, z93 b2, i3 b1 1] (BdE p bd5 A5 c5) rfl rfl rfl (cAdd p (1 + 18) bd5 A5 c5 ok5 (by omega) d5 d4) ?_
 rintro t31 S31 ⟨d6, bd6, A6, c6, e6, ok6, rfl, rfl⟩
 refine ya ?_
 refine AW.rseqH (HeldCs [(b7, 0, Value.int .i64 (d5)), (b6, 0, Value.int .i64 (d4)), (b5, 0, Value.int .i64 (d1)), (b4, 0, Value.int .i64 (0)), (b3, 0, Value.pointer (some ⟨p, 0, none⟩)), (b1, 0, Value.int .i64 (1))]) rfl (tells_cs (tcB 0 rfl rfl pinV (tcB 1 rfl rfl pinV (tcB 2 rfl rfl pinV (tcB 3 rfl rfl pinV (tcB 4 rfl rfl pinV (tcB 6 rfl rfl pinV (tc0)))))))) ?_
 refine T2 (i := 0) rfl (heldB 4 rfl ag_87 (E rfl rfl) rfl (fun _ _ => .v _)) ?_
 refine T2 (i := 1) rfl (heldB 4 rfl ag_87 (E rfl rfl) rfl (fun _ _ => .v _)) ?_
 refine T2 (i := 3) rfl (heldAll (freeMove rfl (E rfl rfl))) ?_
 refine T2 (i := 4) rfl (heldAll (freeMk rfl evs0 rfl (evsC (E rfl rfl) (evsC (E rfl rfl) evs0)) rfl)) ?_
 refine AWH.one (i := 2) (by kernel_rfl) rfl ?_
 refine cE ce_87 [i3 b7 d5, i3 b6 d4, i3 b5 d1, i3 b4 0, p87 b3 p, z93 b2, i3 b1 1] (BdE p bd6 A6 c6) rfl rfl rfl (cCell p (1 + 20) bd6 A6 c6 ok6 (by omega) 336) ?_
 rintro t34 S34 ⟨d7, bd7, A7, c7, e7, ok7, rfl, rfl⟩
 refine AWL.nil (kpH (tcB 0 rfl rfl pinV (tcB 1 rfl rfl pinV (tcB 2 rfl rfl pinV (tcB 3 rfl rfl pinV (tcB 4 rfl rfl pinV (tcB 6 rfl rfl pinV (tc0))))))) ?_)
 refine AWH.one (i := 5) (by kernel_rfl) rfl ?_
 refine cA ce_80 rfl rfl rfl (cThen p (1 + 24) 1 bd7 A7 c7 ok7 (by omega) 5 d7 d6 109 #[.pointer (some ⟨b3, 0, none⟩), .pointer (some ⟨b1, 0, none⟩)] [i3 b7 d5, i3 b6 d4, i3 b5 d1, i3 b4 0, p87 b3 p, z93 b2, i3 b1 1] (mCopied2 ) ce_109 (fun bd9 A9 c9 ok9 => cCopied2 p _ bd9 A9 c9 ok9 (by omega) [i3 b7 d5, i3 b6 d4, i3 b5 d1, i3 b4 0, p87 b3 p, z93 b2, i3 b1 1] 4 b3 rfl 6 b1 rfl)) ?_
 rintro t37 S37 ⟨rfl, bd8, A8, c8, e8, ok8, rfl⟩
 refine AWL.nil (kpH (tcB 0 rfl rfl pinV (tcB 1 rfl rfl pinV (tcB 2 rfl rfl pinV (tcB 3 rfl rfl pinV (tcB 4 rfl rfl pinV (tcB 6 rfl rfl pinV (tc0))))))) ?_)
 refine AWH.done (by kernel_rfl) ?_
 refine rs (yl ag_87 4 ?_)
 refine ym ?_
 refine cE ce_76 [i3 b7 d5, i3 b6 d4, i3 b5 d1, i3 b4 0, p87 b3 p, z93 b2, i3 b1 1] (BdE p bd8 A8 c8) rfl rfl rfl (cSetCell p (1 + 28) bd8 A8 c8 ok8 (by omega) 328 d6) ?_
 rintro t40 S40 ⟨d9, bd9, A9, c9, e9, ok9, rfl, rfl⟩
 refine nl ?_
 refine rs (yl ag_87 4 ?_)
 refine cE ce_53 [i3 b7 d5, i3 b6 d4, i3 b5 d1, i3 b4 0, p87 b3 p, z93 b2, i3 b1 1] (BdE p bd9 A9 c9) rfl rfl rfl (cC p (1 + 31) bd9 A9 c9 ok9 (by omega) 0) ?_
 rintro t42 S42 ⟨d10, bd10, A10, c10, e10, ok10, rfl, rfl⟩
 refine AWL.allocOp rfl rfl (B rfl) rfl zc_3 (fun b9 => ?_)
 refine AWL.perm (List.perm_append_singleton _ _).symm ?_
 refine AWL.storeBox (i := 0) rfl rfl rfl ag_3 rfl (E rfl rfl) (E rfl rfl) rfl rfl nB (nl ?_)
 refine rs (yl ag_87 5 ?_)
 refine Y1 (Yv.makeFunc rfl evs0 rfl (evsC eV (evsC eV evs0)) rfl) ?_
 refine Y1 (Yv.makeFunc rfl evs0 rfl (evsC eV (evsC eV (evsC eV (evsC eV evs0)))) rfl) ?_
 refine cA ce_96 rfl rfl rfl (cWhile p (1 + 33) 10 0 bd10 A10 c10 ok10 (by omega) 3 110 111 #[.pointer (some ⟨b9, 0, none⟩), .pointer (some ⟨b6, 0, none⟩)] #[.pointer (some ⟨b3, 0, none⟩), .pointer (some ⟨b7, 0, none⟩), .pointer (some ⟨b9, 0, none⟩), .pointer (some ⟨b4, 0, none⟩)] [i3 b9 d10, i3 b7 d5, i3 b6 d4, i3 b5 d1, i3 b4 0, p87 b3 p, z93 b2, i3 b1 1] (mCopied3 d10 d4) (mCopied4 d5 d10 0) ce_110 ce_111 (fun bd9 A9 c9 ok9 => cCopied3 p _ bd9 A9 c9 ok9 (by omega) [i3 b9 d10, i3 b7 d5, i3 b6 d4, i3 b5 d1, i3 b4 0, p87 b3 p, z93 b2, i3 b1 1] 0 b9 d10 rfl 2 b6 d4 rfl) (fun bd9 A9 c9 ok9 => cCopied4 p _ bd9 A9 c9 ok9 (by omega) [i3 b9 d10, i3 b7 d5, i3 b6 d4, i3 b5 d1, i3 b4 0, p87 b3 p, z93 b2, i3 b1 1] 5 b3 rfl 1 b7 d5 rfl 0 b9 d10 rfl 4 b4 0 rfl)) ?_
 rintro t46 S46 ⟨rfl, bd11, A11, c11, e11, ok11, rfl⟩
 refine nl ?_
 refine AW.rseqH (HeldCs [(b9, 0, Value.int .i64 (d10)), (b7, 0, Value.int .i64 (d5)), (b6, 0, Value.int .i64 (d4)), (b5, 0, Value.int .i64 (d1)), (b4, 0, Value.int .i64 (0)), (b3, 0, Value.pointer (some ⟨p, 0, none⟩)), (b1, 0, Value.int .i64 (1))]) rfl (tells_cs (tcB 0 rfl rfl pinV (tcB 1 rfl rfl pinV (tcB 2 rfl rfl pinV (tcB 3 rfl rfl pinV (tcB 4 rfl rfl pinV (tcB 5 rfl rfl pinV (tcB 7 rfl rfl pinV (tc0))))))))) ?_
 refine T2 (i := 0) rfl (heldB 5 rfl ag_87 (E rfl rfl) rfl (fun _ _ => .v _)) ?_
 refine T2 (i := 1) rfl (heldB 1 rfl ag_3 (E rfl rfl) rfl (fun _ _ => .v _)) ?_
 refine T2 (i := 2) rfl (heldB 5 rfl ag_87 (E rfl rfl) rfl (fun _ _ => .v _)) ?_
 refine T2 (i := 3) rfl (heldB 5 rfl ag_87 (E rfl rfl) rfl (fun _ _ => .v _)) ?_
 refine AWH.one (i := 4) (by kernel_rfl) rfl ?_
 refine yl ag_3 1 ?_
 refine AWL.nil (kpH (tcB 0 rfl rfl pinV (tcB 1 rfl rfl pinV (tcB 2 rfl rfl pinV (tcB 3 rfl rfl pinV (tcB 4 rfl rfl pinV (tcB 5 rfl rfl pinV (tcB 7 rfl rfl pinV (tc0)))))))) ?_)
 refine AWH.one (i := 5) (by kernel_rfl) rfl ?_
 refine cE ce_99 [i3 b9 d10, i3 b7 d5, i3 b6 d4, i3 b5 d1, i3 b4 0, p87 b3 p, z93 b2, i3 b1 1] (BdE p bd11 A11 c11) rfl rfl rfl (cGet p (1 + 49) bd11 A11 c11 ok11 (by omega) d5 0) ?_
 rintro t52 S52 ⟨d12, bd12, A12, c12, e12, ok12, rfl, rfl⟩
 refine AWL.nil (kpH (tcB 0 rfl rfl pinV (tcB 1 rfl rfl pinV (tcB 2 rfl rfl pinV (tcB 3 rfl rfl pinV (tcB 4 rfl rfl pinV (tcB 5 rfl rfl pinV (tcB 7 rfl rfl pinV (tc0)))))))) ?_)
 refine AWH.one (i := 6) (by kernel_rfl) rfl ?_
 refine cE ce_100 [i3 b9 d10, i3 b7 d5, i3 b6 d4, i3 b5 d1, i3 b4 0, p87 b3 p, z93 b2, i3 b1 1] (BdE p bd12 A12 c12) rfl rfl rfl (cAnd p (1 + 51) bd12 A12 c12 ok12 (by omega) d12 ((-33))) ?_
 rintro t53 S53 ⟨d13, bd13, A13, c13, e13, ok13, rfl, rfl⟩
 refine AWL.nil (kpH (tcB 0 rfl rfl pinV (tcB 1 rfl rfl pinV (tcB 2 rfl rfl pinV (tcB 3 rfl rfl pinV (tcB 4 rfl rfl pinV (tcB 5 rfl rfl pinV (tcB 7 rfl rfl pinV (tc0)))))))) ?_)
 refine AWH.one (i := 7) (by kernel_rfl) rfl ?_
 refine cE ce_92 [i3 b9 d10, i3 b7 d5, i3 b6 d4, i3 b5 d1, i3 b4 0, p87 b3 p, z93 b2, i3 b1 1] (BdE p bd13 A13 c13) rfl rfl rfl (cSave p (1 + 55) bd13 A13 c13 ok13 (by omega) d5 0 d13) ?_
 rintro t54 S54 ⟨d14, bd14, A14, c14, e14, ok14, rfl, rfl⟩
 refine AWL.nil (kpH (tcB 0 rfl rfl pinV (tcB 1 rfl rfl pinV (tcB 2 rfl rfl pinV (tcB 3 rfl rfl pinV (tcB 4 rfl rfl pinV (tcB 5 rfl rfl pinV (tcB 7 rfl rfl pinV (tc0)))))))) ?_)
 refine AWH.done (by kernel_rfl) ?_
 refine rs (yl ag_87 5 ?_)
 refine yl ag_3 4 ?_
 refine yl ag_3 1 ?_
 refine cE ce_92 [i3 b9 d10, i3 b7 d5, i3 b6 d4, i3 b5 d1, i3 b4 0, p87 b3 p, z93 b2, i3 b1 1] (BdE p bd14 A14 c14) rfl rfl rfl (cSave p (1 + 56) bd14 A14 c14 ok14 (by omega) 0 0 d5) ?_
 rintro t58 S58 ⟨d15, bd15, A15, c15, e15, ok15, rfl, rfl⟩
 refine nl ?_
 refine rs (yl ag_87 5 ?_)
 refine yl ag_3 1 ?_
 refine cE ce_52 [i3 b9 d10, i3 b7 d5, i3 b6 d4, i3 b5 d1, i3 b4 0, p87 b3 p, z93 b2, i3 b1 1] (BdE p bd15 A15 c15) rfl rfl rfl (cRet p (1 + 57) bd15 A15 c15 ok15 (by omega) d5) ?_
 rintro t61 S61 ⟨d16, bd16, A16, c16, e16, ok16, rfl, rfl⟩
 refine nl ?_
 refine rs (yl ag_87 5 ?_)
 refine cE ce_35 [i3 b9 d10, i3 b7 d5, i3 b6 d4, i3 b5 d1, i3 b4 0, p87 b3 p, z93 b2, i3 b1 1] (BdE p bd16 A16 c16) rfl rfl rfl (cDone p bd16 A16 c16) ?_
 rintro t63 S63 ⟨rfl, rfl⟩
 refine AWL.storeBox (i := 6) rfl rfl rfl ag_93 rfl (E rfl rfl) (E rfl rfl) rfl rfl nB (nl ?_)
 refine AW.ret (retI (.cellA (i := 6) rfl ag_93 rfl rfl rfl .nil) ?_)
 show _ = T.agg (fnCells (fnB (mCopiedFn (bd0 [103, 99, 46, 99, 111, 112, 105, 101, 100] 1)).2))
 rw [show mCopiedFn (bd0 [103, 99, 46, 99, 111, 112, 105, 101, 100] 1) = ((), bd16) from (bq e1).trans ((bq e2).trans ((bq e3).trans ((bq e4).trans ((bq e5).trans ((bq e6).trans ((bq e7).trans ((bq e8).trans ((bq e9).trans ((bq e10).trans ((bq e11).trans ((bq e12).trans ((bq e13).trans ((bq e14).trans ((bq e15).trans (e16)))))))))))))))]
 rfl

theorem cCopiedFn : ACalls Tryz.prog 61 [zi 1] [] (fun t S => t = .agg (fnCells fCopiedFn) ∧ S = []) := (cCopiedFn_).less fun t S' h => ⟨[], List.nil_sublist _, h, rfl⟩
def mForwardFn : BM Unit :=
 bnd (mAnd (0) (1)) fun d1 =>
 bnd (mThenC (2) (d1) (0) (mForward1 (0))) fun _ =>
 bnd (mCell (344)) fun d3 =>
 bnd (mSub (0) (d3)) fun d4 =>
 bnd (mCell (352)) fun d5 =>
 bnd (mThen (5) (d4) (d5) (mForward2 (0))) fun _ =>
 bnd (mCell (360)) fun d7 =>
 bnd (mSub (0) (d7)) fun d8 =>
 bnd (mCell (368)) fun d9 =>
 bnd (mThen (5) (d8) (d9) (mForward3 (0))) fun _ =>
 mRet (0)
def fForwardFn : Fn := fnB (mForwardFn (bd0 [103, 99, 46, 102, 111, 114, 119, 97, 114, 100] 1)).2
set_option maxHeartbeats 16000000 in
theorem cForwardFn_  :
    ACalls Tryz.prog 62 [zi 1] [] (fun t S => t = .agg (fnCells (fForwardFn))) := by
 refine ACalls.intro Tryz.func62 rfl Tryz.ntmps62 nB rfl fun X w0 => ?_
 refine rs ?_
 refine AWL.boxOp rfl rfl (B rfl) rfl (E rfl rfl) rfl (fun b1 => ?_)
 refine AWL.perm (List.perm_append_singleton _ _).symm ?_
 refine AWL.allocOp rfl rfl (B rfl) rfl zc_93 (fun b2 => ?_)
 refine AWL.perm (List.perm_append_singleton _ _).symm (nl ?_)
 refine rs ?_
 refine cE ce_32 [z93 b2, i3 b1 1] [] rfl rfl rfl (cNew [103, 99, 46, 102, 111, 114, 119, 97, 114, 100] 1) ?_
 rintro t5 S5 ⟨p, rfl, rfl⟩
 have ok0 : BdOk 1 (bd0 [103, 99, 46, 102, 111, 114, 119, 97, 114, 100] 1) := ⟨by decide, by decide, by decide, by decide, by decide, by decide, by decide⟩
 refine AWL.allocOp rfl rfl (B rfl) rfl zc_87 (fun b3 => ?_)
 refine AWL.perm (List.perm_append_singleton _ _).symm ?_
 refine AWL.storeBox (i := 0) rfl rfl rfl ag_87 rfl (E rfl rfl) (E rfl rfl) rfl rfl nB (nl ?_)
 refine rs ?_
 refine AWL.allocOp rfl rfl (B rfl) rfl zc_3 (fun b4 => ?_)
 refine AWL.perm (List.perm_append_singleton _ _).symm ?_
 refine AWL.storeBox (i := 0) rfl rfl rfl ag_3 rfl (E rfl rfl) (E rfl rfl) rfl rfl nB (nl ?_)
 refine AW.rseqH (HeldCs [(b4, 0, Value.int .i64 (0)), (b3, 0, Value.pointer (some ⟨p, 0, none⟩)), (b1, 0, Value.int .i64 (1))]) rfl (tells_cs (tcB 0 rfl rfl pinV (tcB 1 rfl rfl pinV (tcB 3 rfl rfl pinV (tc0))))) ?_
 refine T2 (i := 0) rfl (heldB 1 rfl ag_87 (E rfl rfl) rfl (fun _ _ => .v _)) ?_
 refine T2 (i := 1) rfl (heldB 1 rfl ag_87 (E rfl rfl) rfl (fun _ _ => .v _)) ?_
 refine T2 (i := 2) rfl (heldB 0 rfl ag_3 (E rfl rfl) rfl (fun _ _ => .v _)) ?_
 refine T2 (i := 4) rfl (heldAll (freeMk rfl evs0 rfl (evsC (E rfl rfl) (evsC (E rfl rfl) evs0)) rfl)) ?_
 refine AWH.one (i := 3) (by kernel_rfl) rfl ?_
 refine cE ce_100 [i3 b4 0, p87 b3 p, z93 b2, i3 b1 1] (BdE p (bd0 [103, 99, 46, 102, 111, 114, 119, 97, 114, 100] 1) none 0) rfl rfl rfl (cAnd p 1 (bd0 [103, 99, 46, 102, 111, 114, 119, 97, 114, 100] 1) none 0 ok0 (by omega) 0 1) ?_
 rintro t9 S9 ⟨d1, bd1, A1, c1, e1, ok1, rfl, rfl⟩
 refine AWL.nil (kpH (tcB 0 rfl rfl pinV (tcB 1 rfl rfl pinV (tcB 3 rfl rfl pinV (tc0)))) ?_)
 refine AWH.one (i := 5) (by kernel_rfl) rfl ?_
 refine cA ce_102 rfl rfl rfl (cThenC p (1 + 4) 1 bd1 A1 c1 ok1 (by omega) 2 d1 0 112 #[.pointer (some ⟨b3, 0, none⟩), .pointer (some ⟨b4, 0, none⟩)] [i3 b4 0, p87 b3 p, z93 b2, i3 b1 1] (mForward1 0) ce_112 (fun bd9 A9 c9 ok9 => cForward1 p _ bd9 A9 c9 ok9 (by omega) [i3 b4 0, p87 b3 p, z93 b2, i3 b1 1] 1 b3 rfl 0 b4 0 rfl)) ?_
 rintro t11 S11 ⟨rfl, bd2, A2, c2, e2, ok2, rfl⟩
 refine AWL.nil (kpH (tcB 0 rfl rfl pinV (tcB 1 rfl rfl pinV (tcB 3 rfl rfl pinV (tc0)))) ?_)
 refine AWH.done (by kernel_rfl) ?_
 refine AW.rseqH (HeldCs [(b4, 0, Value.int .i64 (0)), (b3, 0, Value.pointer (some ⟨p, 0, none⟩)), (b1, 0, Value.int .i64 (1))]) rfl (tells_cs (tcB 0 rfl rfl pinV (tcB 1 rfl rfl pinV (tcB 3 rfl rfl pinV (tc0))))) ?_
 refine T2 (i := 0) rfl (heldB 1 rfl ag_87 (E rfl rfl) rfl (fun _ _ => .v _)) ?_
 refine T2 (i := 1) rfl (heldB 1 rfl ag_87 (E rfl rfl) rfl (fun _ _ => .v _)) ?_
 refine T2 (i := 2) rfl (heldB 0 rfl ag_3 (E rfl rfl) rfl (fun _ _ => .v _)) ?_
 refine T2 (i := 3) rfl (heldB 1 rfl ag_87 (E rfl rfl) rfl (fun _ _ => .v _)) ?_
 refine T2 (i := 6) rfl (heldB 1 rfl ag_87 (E rfl rfl) rfl (fun _ _ => .v _)) ?_
 refine T2 (i := 8) rfl (heldAll (freeMk rfl evs0 rfl (evsC (E rfl rfl) (evsC (E rfl rfl) (evsC (E rfl rfl) evs0))) rfl)) ?_
 refine AWH.one (i := 4) (by kernel_rfl) rfl ?_
 refine cE ce_87 [i3 b4 0, p87 b3 p, z93 b2, i3 b1 1] (BdE p bd2 A2 c2) rfl rfl rfl (cCell p (1 + 10) bd2 A2 c2 ok2 (by omega) 344) ?_
 rintro t16 S16 ⟨d3, bd3, A3, c3, e3, ok3, rfl, rfl⟩
 refine AWL.nil (kpH (tcB 0 rfl rfl pinV (tcB 1 rfl rfl pinV (tcB 3 rfl rfl pinV (tc0)))) ?_)
 refine AWH.one (i := 5) (by kernel_rfl) rfl ?_
 refine cE ce_86 [i3 b4 0, p87 b3 p, z93 b2, i3 b1 1] (BdE p bd3 A3 c3) rfl rfl rfl (cSub p (1 + 14) bd3 A3 c3 ok3 (by omega) 0 d3) ?_
 rintro t17 S17 ⟨d4, bd4, A4, c4, e4, ok4, rfl, rfl⟩
 refine AWL.nil (kpH (tcB 0 rfl rfl pinV (tcB 1 rfl rfl pinV (tcB 3 rfl rfl pinV (tc0)))) ?_)
 refine AWH.one (i := 7) (by kernel_rfl) rfl ?_
 refine cE ce_87 [i3 b4 0, p87 b3 p, z93 b2, i3 b1 1] (BdE p bd4 A4 c4) rfl rfl rfl (cCell p (1 + 16) bd4 A4 c4 ok4 (by omega) 352) ?_
 rintro t19 S19 ⟨d5, bd5, A5, c5, e5, ok5, rfl, rfl⟩
 refine AWL.nil (kpH (tcB 0 rfl rfl pinV (tcB 1 rfl rfl pinV (tcB 3 rfl rfl pinV (tc0)))) ?_)
 refine AWH.one (i := 9) (by kernel_rfl) rfl ?_
 refine cA ce_80 rfl rfl rfl (cThen p (1 + 20) 1 bd5 A5 c5 ok5 (by omega) 5 d4 d5 113 #[.pointer (some ⟨b3, 0, none⟩), .pointer (some ⟨b1, 0, none⟩), .pointer (some ⟨b4, 0, none⟩)] [i3 b4 0, p87 b3 p, z93 b2, i3 b1 1] (mForward2 0) ce_113 (fun bd9 A9 c9 ok9 => cForward2 p _ bd9 A9 c9 ok9 (by omega) [i3 b4 0, p87 b3 p, z93 b2, i3 b1 1] 1 b3 rfl 3 b1 rfl 0 b4 0 rfl)) ?_
 rintro t21 S21 ⟨rfl, bd6, A6, c6, e6, ok6, rfl⟩
 refine AWL.nil (kpH (tcB 0 rfl rfl pinV (tcB 1 rfl rfl pinV (tcB 3 rfl rfl pinV (tc0)))) ?_)
 refine AWH.done (by kernel_rfl) ?_
 refine AW.rseqH (HeldCs [(b4, 0, Value.int .i64 (0)), (b3, 0, Value.pointer (some ⟨p, 0, none⟩)), (b1, 0, Value.int .i64 (1))]) rfl (tells_cs (tcB 0 rfl rfl pinV (tcB 1 rfl rfl pinV (tcB 3 rfl rfl pinV (tc0))))) ?_
 refine T2 (i := 0) rfl (heldB 1 rfl ag_87 (E rfl rfl) rfl (fun _ _ => .v _)) ?_
 refine T2 (i := 1) rfl (heldB 1 rfl ag_87 (E rfl rfl) rfl (fun _ _ => .v _)) ?_
 refine T2 (i := 2) rfl (heldB 0 rfl ag_3 (E rfl rfl) rfl (fun _ _ => .v _)) ?_
 refine T2 (i := 3) rfl (heldB 1 rfl ag_87 (E rfl rfl) rfl (fun _ _ => .v _)) ?_
 refine T2 (i := 6) rfl (heldB 1 rfl ag_87 (E rfl rfl) rfl (fun _ _ => .v _)) ?_
 refine T2 (i := 8) rfl (heldAll (freeMk rfl evs0 rfl (evsC (E rfl rfl) (evsC (E rfl rfl) (evsC (E rfl rfl) evs0))) rfl)) ?_
 refine AWH.one (i := 4) (by kernel_rfl) rfl ?_
 refine cE ce_87 [i3 b4 0, p87 b3 p, z93 b2, i3 b1 1] (BdE p bd6 A6 c6) rfl rfl rfl (cCell p (1 + 24) bd6 A6 c6 ok6 (by omega) 360) ?_
 rintro t26 S26 ⟨d7, bd7, A7, c7, e7, ok7, rfl, rfl⟩
 refine AWL.nil (kpH (tcB 0 rfl rfl pinV (tcB 1 rfl rfl pinV (tcB 3 rfl rfl pinV (tc0)))) ?_)
 refine AWH.one (i := 5) (by kernel_rfl) rfl ?_
 refine cE ce_86 [i3 b4 0, p87 b3 p, z93 b2, i3 b1 1] (BdE p bd7 A7 c7) rfl rfl rfl (cSub p (1 + 28) bd7 A7 c7 ok7 (by omega) 0 d7) ?_
 rintro t27 S27 ⟨d8, bd8, A8, c8, e8, ok8, rfl, rfl⟩
 refine AWL.nil (kpH (tcB 0 rfl rfl pinV (tcB 1 rfl rfl pinV (tcB 3 rfl rfl pinV (tc0)))) ?_)
 refine AWH.one (i := 7) (by kernel_rfl) rfl ?_
 refine cE ce_87 [i3 b4 0, p87 b3 p, z93 b2, i3 b1 1] (BdE p bd8 A8 c8) rfl rfl rfl (cCell p (1 + 30) bd8 A8 c8 ok8 (by omega) 368) ?_
 rintro t29 S29 ⟨d9, bd9, A9, c9, e9, ok9, rfl, rfl⟩
 refine AWL.nil (kpH (tcB 0 rfl rfl pinV (tcB 1 rfl rfl pinV (tcB 3 rfl rfl pinV (tc0)))) ?_)
 refine AWH.one (i := 9) (by kernel_rfl) rfl ?_
 refine cA ce_80 rfl rfl rfl (cThen p (1 + 34) 1 bd9 A9 c9 ok9 (by omega) 5 d8 d9 114 #[.pointer (some ⟨b3, 0, none⟩), .pointer (some ⟨b1, 0, none⟩), .pointer (some ⟨b4, 0, none⟩)] [i3 b4 0, p87 b3 p, z93 b2, i3 b1 1] (mForward3 0) ce_114 (fun bd9 A9 c9 ok9 => cForward3 p _ bd9 A9 c9 ok9 (by omega) [i3 b4 0, p87 b3 p, z93 b2, i3 b1 1] 1 b3 rfl 3 b1 rfl 0 b4 0 rfl)) ?_
 rintro t31 S31 ⟨rfl, bd10, A10, c10, e10, ok10, rfl⟩
 refine AWL.nil (kpH (tcB 0 rfl rfl pinV (tcB 1 rfl rfl pinV (tcB 3 rfl rfl pinV (tc0)))) ?_)
 refine AWH.done (by kernel_rfl) ?_
 refine rs (yl ag_87 1 ?_)
 refine yl ag_3 0 ?_
 refine cE ce_52 [i3 b4 0, p87 b3 p, z93 b2, i3 b1 1] (BdE p bd10 A10 c10) rfl rfl rfl (cRet p (1 + 38) bd10 A10 c10 ok10 (by omega) 0) ?_
 rintro t34 S34 ⟨d11, bd11, A11, c11, e11, ok11, rfl, rfl⟩
 refine nl ?_
 refine rs (yl ag_87 1 ?_)
 refine cE ce_35 [i3 b4 0, p87 b3 p, z93 b2, i3 b1 1] (BdE p bd11 A11 c11) rfl rfl rfl (cDone p bd11 A11 c11) ?_
 rintro t36 S36 ⟨rfl, rfl⟩
 refine AWL.storeBox (i := 2) rfl rfl rfl ag_93 rfl (E rfl rfl) (E rfl rfl) rfl rfl nB (nl ?_)
 refine AW.ret (retI (.cellA (i := 2) rfl ag_93 rfl rfl rfl .nil) ?_)
 show _ = T.agg (fnCells (fnB (mForwardFn (bd0 [103, 99, 46, 102, 111, 114, 119, 97, 114, 100] 1)).2))
 rw [show mForwardFn (bd0 [103, 99, 46, 102, 111, 114, 119, 97, 114, 100] 1) = ((), bd11) from (bq e1).trans ((bq e2).trans ((bq e3).trans ((bq e4).trans ((bq e5).trans ((bq e6).trans ((bq e7).trans ((bq e8).trans ((bq e9).trans ((bq e10).trans (e11))))))))))]
 rfl

theorem cForwardFn : ACalls Tryz.prog 62 [zi 1] [] (fun t S => t = .agg (fnCells fForwardFn) ∧ S = []) := (cForwardFn_).less fun t S' h => ⟨[], List.nil_sublist _, h, rfl⟩
end Go.Proofs.YtpgbpdnmjeoeoaaGreat.B
