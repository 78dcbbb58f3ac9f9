/-
  TEXTS JOINED: BWk2, BWk3, BWk4.
-/
import Derived.Test.YtpgbpdnmjeoeoaaGreatYh
set_option linter.unusedSimpArgs false
set_option linter.unusedVariables false
set_option linter.unusedSectionVars false
set_option linter.unnecessarySimpa false
namespace Go.Proofs.YtpgbpdnmjeoeoaaGreat.B
open Go Go.RowKit

set_option maxHeartbeats 4000000 in
theorem cC (p N : Nat) (bd : Bd) (A : Option Addr) (c : Nat) (ok : BdOk N bd) (hN : N ≤ 99980) (n : Int) :
    ACalls Tryz.prog 53 [pv p, zi n] (BdE p bd A c) (BR (mC n) bd p (N + 2) zi) := by
 refine ACalls.intro Tryz.func53 rfl Tryz.ntmps53 nB rfl fun X w0 => ?_
 refine ra ?_
 refine rs (ym ?_)
 refine cE ce_50 [] (BdE p bd A c) rfl rfl rfl (cReg p N bd A c ok (by omega) ) ?_
 rintro t7 S7 ⟨d1, bd1, A1, c1, e1, ok1, rfl, rfl⟩
 refine ya ?_
 refine rs (ym ?_)
 refine ym ?_
 refine ym ?_
 refine Y1 (Yv.buildS rfl sh_98 (evpC eV (evpC eV (evpC eV evp0))) (fun _ => rfl)) ?_
 refine cE ce_51 [] (BdE p bd1 A1 c1) rfl rfl rfl ((cPut p (N + 1) bd1 A1 c1 ok1 (by omega) (insI 1 d1 0 0 0 0 0 0 0 n)).le (.cons .refl (.cons nil_le .refl))) ?_
 rintro t12 S12 ⟨d2, bd2, A2, c2, e2, ok2, rfl, rfl⟩
 refine nl ?_
 refine rs (ym ?_)
 refine ya ?_
 refine AW.ret (retI (.tmp rfl .nil) ?_)
 exact ⟨_, _, _, _, (bq e1).trans ((bq e2)), ok2, rfl, rfl⟩

set_option maxHeartbeats 4000000 in
theorem cSetC (p N : Nat) (bd : Bd) (A : Option Addr) (c : Nat) (ok : BdOk N bd) (hN : N ≤ 99980) (d : Int) (n : Int) :
    ACalls Tryz.prog 82 [pv p, zi d, zi n] (BdE p bd A c) (BR (mSetC d n) bd p (N + 1) (fun _ => .tup [])) := by
 refine ACalls.intro Tryz.func82 rfl Tryz.ntmps82 nB rfl fun X w0 => ?_
 refine AW.region ?_
 refine ym ?_
 refine ym ?_
 refine ym ?_
 refine Y1 (Yv.buildS rfl sh_98 (evpC eV (evpC eV (evpC eV evp0))) (fun _ => rfl)) ?_
 refine cE ce_51 [] (BdE p bd A c) rfl rfl rfl ((cPut p N bd A c ok (by omega) (insI 1 d 0 0 0 0 0 0 0 n)).le (.cons .refl (.cons nil_le .refl))) ?_
 rintro t10 S10 ⟨d1, bd1, A1, c1, e1, ok1, rfl, rfl⟩
 refine nl ?_
 refine retN .nil ?_
 exact ⟨_, _, _, _, e1, ok1, rfl, rfl⟩

set_option maxHeartbeats 4000000 in
theorem cSet (p N : Nat) (bd : Bd) (A : Option Addr) (c : Nat) (ok : BdOk N bd) (hN : N ≤ 99980) (d : Int) (a : Int) :
    ACalls Tryz.prog 124 [pv p, zi d, zi a] (BdE p bd A c) (BR (mSet d a) bd p (N + 1) (fun _ => .tup [])) := by
 refine ACalls.intro Tryz.func124 rfl Tryz.ntmps124 nB rfl fun X w0 => ?_
 refine AW.region ?_
 refine ym ?_
 refine ym ?_
 refine ym ?_
 refine Y1 (Yv.buildS rfl sh_98 (evpC eV (evpC eV (evpC eV evp0))) (fun _ => rfl)) ?_
 refine cE ce_51 [] (BdE p bd A c) rfl rfl rfl ((cPut p N bd A c ok (by omega) (insI 2 d a 0 0 0 0 0 0 0)).le (.cons .refl (.cons nil_le .refl))) ?_
 rintro t10 S10 ⟨d1, bd1, A1, c1, e1, ok1, rfl, rfl⟩
 refine nl ?_
 refine retN .nil ?_
 exact ⟨_, _, _, _, e1, ok1, rfl, rfl⟩

set_option maxHeartbeats 4000000 in
theorem cCopy (p N : Nat) (bd : Bd) (A : Option Addr) (c : Nat) (ok : BdOk N bd) (hN : N ≤ 99960) (a : Int) :
    ACalls Tryz.prog 117 [pv p, zi a] (BdE p bd A c) (BR (mCopy a) bd p (N + 2) zi) := by
 refine ACalls.intro Tryz.func117 rfl Tryz.ntmps117 nB rfl fun X w0 => ?_
 refine ra ?_
 refine rs (ym ?_)
 refine cE ce_50 [] (BdE p bd A c) rfl rfl rfl (cReg p N bd A c ok (by omega) ) ?_
 rintro t7 S7 ⟨d1, bd1, A1, c1, e1, ok1, rfl, rfl⟩
 refine ya ?_
 refine rs (ym ?_)
 refine ym ?_
 refine ym ?_
 refine cE ce_124 [] (BdE p bd1 A1 c1) rfl rfl rfl (cSet p (N + 1) bd1 A1 c1 ok1 (by omega) d1 a) ?_
 rintro t11 S11 ⟨d2, bd2, A2, c2, e2, ok2, rfl, rfl⟩
 refine nl ?_
 refine rs (ym ?_)
 refine ya ?_
 refine AW.ret (retI (.tmp rfl .nil) ?_)
 exact ⟨_, _, _, _, (bq e1).trans ((bq e2)), ok2, rfl, rfl⟩

set_option maxHeartbeats 4000000 in
theorem cOp (p N : Nat) (bd : Bd) (A : Option Addr) (c : Nat) (ok : BdOk N bd) (hN : N ≤ 99980) (k : Int) (a : Int) (b : Int) :
    ACalls Tryz.prog 132 [pv p, zi k, zi a, zi b] (BdE p bd A c) (BR (mOp k a b) bd p (N + 2) zi) := by
 refine ACalls.intro Tryz.func132 rfl Tryz.ntmps132 nB rfl fun X w0 => ?_
 refine ra ?_
 refine rs (ym ?_)
 refine cE ce_50 [] (BdE p bd A c) rfl rfl rfl (cReg p N bd A c ok (by omega) ) ?_
 rintro t11 S11 ⟨d1, bd1, A1, c1, e1, ok1, rfl, rfl⟩
 refine ya ?_
 refine rs (ym ?_)
 refine ym ?_
 refine ym ?_
 refine ym ?_
 refine ym ?_
 refine Y1 (Yv.buildS rfl sh_98 (evpC eV (evpC eV (evpC eV (evpC eV evp0)))) (fun _ => rfl)) ?_
 refine cE ce_51 [] (BdE p bd1 A1 c1) rfl rfl rfl ((cPut p (N + 1) bd1 A1 c1 ok1 (by omega) (insI k d1 a b 0 0 0 0 0 0)).le (.cons .refl (.cons nil_le .refl))) ?_
 rintro t18 S18 ⟨d2, bd2, A2, c2, e2, ok2, rfl, rfl⟩
 refine nl ?_
 refine rs (ym ?_)
 refine ya ?_
 refine AW.ret (retI (.tmp rfl .nil) ?_)
 exact ⟨_, _, _, _, (bq e1).trans ((bq e2)), ok2, rfl, rfl⟩

set_option maxHeartbeats 4000000 in
theorem cInto (p N : Nat) (bd : Bd) (A : Option Addr) (c : Nat) (ok : BdOk N bd) (hN : N ≤ 99980) (d : Int) (k : Int) (a : Int) (b : Int) :
    ACalls Tryz.prog 77 [pv p, zi d, zi k, zi a, zi b] (BdE p bd A c) (BR (mInto d k a b) bd p (N + 1) (fun _ => .tup [])) := by
 refine ACalls.intro Tryz.func77 rfl Tryz.ntmps77 nB rfl fun X w0 => ?_
 refine AW.region ?_
 refine ym ?_
 refine ym ?_
 refine ym ?_
 refine ym ?_
 refine ym ?_
 refine Y1 (Yv.buildS rfl sh_98 (evpC eV (evpC eV (evpC eV (evpC eV evp0)))) (fun _ => rfl)) ?_
 refine cE ce_51 [] (BdE p bd A c) rfl rfl rfl ((cPut p N bd A c ok (by omega) (insI k d a b 0 0 0 0 0 0)).le (.cons .refl (.cons nil_le .refl))) ?_
 rintro t16 S16 ⟨d1, bd1, A1, c1, e1, ok1, rfl, rfl⟩
 refine nl ?_
 refine retN .nil ?_
 exact ⟨_, _, _, _, e1, ok1, rfl, rfl⟩

set_option maxHeartbeats 4000000 in
theorem cOpC (p N : Nat) (bd : Bd) (A : Option Addr) (c : Nat) (ok : BdOk N bd) (hN : N ≤ 99960) (k : Int) (a : Int) (n : Int) :
    ACalls Tryz.prog 78 [pv p, zi k, zi a, zi n] (BdE p bd A c) (BR (mOpC k a n) bd p (N + 4) zi) := by
 refine ACalls.intro Tryz.func78 rfl Tryz.ntmps78 nB rfl fun X w0 => ?_
 refine ra ?_
 refine rs (ym ?_)
 refine ym ?_
 refine ym ?_
 refine ym ?_
 refine ym ?_
 refine cE ce_53 [] (BdE p bd A c) rfl rfl rfl (cC p N bd A c ok (by omega) n) ?_
 rintro t14 S14 ⟨d1, bd1, A1, c1, e1, ok1, rfl, rfl⟩
 refine cE ce_132 [] (BdE p bd1 A1 c1) rfl rfl rfl (cOp p (N + 2) bd1 A1 c1 ok1 (by omega) k a d1) ?_
 rintro t15 S15 ⟨d2, bd2, A2, c2, e2, ok2, rfl, rfl⟩
 refine ya ?_
 refine AW.ret (retI (.tmp rfl .nil) ?_)
 exact ⟨_, _, _, _, (bq e1).trans (e2), ok2, rfl, rfl⟩

set_option maxHeartbeats 4000000 in
theorem cIntoC (p N : Nat) (bd : Bd) (A : Option Addr) (c : Nat) (ok : BdOk N bd) (hN : N ≤ 99960) (d : Int) (k : Int) (a : Int) (n : Int) :
    ACalls Tryz.prog 133 [pv p, zi d, zi k, zi a, zi n] (BdE p bd A c) (BR (mIntoC d k a n) bd p (N + 3) (fun _ => .tup [])) := by
 refine ACalls.intro Tryz.func133 rfl Tryz.ntmps133 nB rfl fun X w0 => ?_
 refine AW.region ?_
 refine ym ?_
 refine ym ?_
 refine ym ?_
 refine ym ?_
 refine ym ?_
 refine ym ?_
 refine cE ce_53 [] (BdE p bd A c) rfl rfl rfl (cC p N bd A c ok (by omega) n) ?_
 rintro t16 S16 ⟨d1, bd1, A1, c1, e1, ok1, rfl, rfl⟩
 refine cE ce_77 [] (BdE p bd1 A1 c1) rfl rfl rfl (cInto p (N + 2) bd1 A1 c1 ok1 (by omega) d k a d1) ?_
 rintro t17 S17 ⟨d2, bd2, A2, c2, e2, ok2, rfl, rfl⟩
 refine nl ?_
 refine retN .nil ?_
 exact ⟨_, _, _, _, (bq e1).trans (e2), ok2, rfl, rfl⟩

set_option maxHeartbeats 4000000 in
theorem cAdd (p N : Nat) (bd : Bd) (A : Option Addr) (c : Nat) (ok : BdOk N bd) (hN : N ≤ 99960) (a : Int) (b : Int) :
    ACalls Tryz.prog 83 [pv p, zi a, zi b] (BdE p bd A c) (BR (mAdd a b) bd p (N + 2) zi) := by
 refine ACalls.intro Tryz.func83 rfl Tryz.ntmps83 nB rfl fun X w0 => ?_
 refine ra ?_
 refine rs (ym ?_)
 refine ym ?_
 refine ym ?_
 refine cE ce_132 [] (BdE p bd A c) rfl rfl rfl (cOp p N bd A c ok (by omega) 3 a b) ?_
 rintro t10 S10 ⟨d1, bd1, A1, c1, e1, ok1, rfl, rfl⟩
 refine ya ?_
 refine AW.ret (retI (.tmp rfl .nil) ?_)
 exact ⟨_, _, _, _, e1, ok1, rfl, rfl⟩

set_option maxHeartbeats 4000000 in
theorem cAddC (p N : Nat) (bd : Bd) (A : Option Addr) (c : Nat) (ok : BdOk N bd) (hN : N ≤ 99940) (a : Int) (n : Int) :
    ACalls Tryz.prog 93 [pv p, zi a, zi n] (BdE p bd A c) (BR (mAddC a n) bd p (N + 4) zi) := by
 refine ACalls.intro Tryz.func93 rfl Tryz.ntmps93 nB rfl fun X w0 => ?_
 refine ra ?_
 refine rs (ym ?_)
 refine ym ?_
 refine ym ?_
 refine cE ce_78 [] (BdE p bd A c) rfl rfl rfl (cOpC p N bd A c ok (by omega) 3 a n) ?_
 rintro t10 S10 ⟨d1, bd1, A1, c1, e1, ok1, rfl, rfl⟩
 refine ya ?_
 refine AW.ret (retI (.tmp rfl .nil) ?_)
 exact ⟨_, _, _, _, e1, ok1, rfl, rfl⟩

set_option maxHeartbeats 4000000 in
theorem cSub (p N : Nat) (bd : Bd) (A : Option Addr) (c : Nat) (ok : BdOk N bd) (hN : N ≤ 99960) (a : Int) (b : Int) :
    ACalls Tryz.prog 86 [pv p, zi a, zi b] (BdE p bd A c) (BR (mSub a b) bd p (N + 2) zi) := by
 refine ACalls.intro Tryz.func86 rfl Tryz.ntmps86 nB rfl fun X w0 => ?_
 refine ra ?_
 refine rs (ym ?_)
 refine ym ?_
 refine ym ?_
 refine cE ce_132 [] (BdE p bd A c) rfl rfl rfl (cOp p N bd A c ok (by omega) 4 a b) ?_
 rintro t10 S10 ⟨d1, bd1, A1, c1, e1, ok1, rfl, rfl⟩
 refine ya ?_
 refine AW.ret (retI (.tmp rfl .nil) ?_)
 exact ⟨_, _, _, _, e1, ok1, rfl, rfl⟩

set_option maxHeartbeats 4000000 in
theorem cAnd (p N : Nat) (bd : Bd) (A : Option Addr) (c : Nat) (ok : BdOk N bd) (hN : N ≤ 99940) (a : Int) (n : Int) :
    ACalls Tryz.prog 100 [pv p, zi a, zi n] (BdE p bd A c) (BR (mAnd a n) bd p (N + 4) zi) := by
 refine ACalls.intro Tryz.func100 rfl Tryz.ntmps100 nB rfl fun X w0 => ?_
 refine ra ?_
 refine rs (ym ?_)
 refine ym ?_
 refine ym ?_
 refine cE ce_78 [] (BdE p bd A c) rfl rfl rfl (cOpC p N bd A c ok (by omega) 9 a n) ?_
 rintro t10 S10 ⟨d1, bd1, A1, c1, e1, ok1, rfl, rfl⟩
 refine ya ?_
 refine AW.ret (retI (.tmp rfl .nil) ?_)
 exact ⟨_, _, _, _, e1, ok1, rfl, rfl⟩

set_option maxHeartbeats 4000000 in
theorem cShl (p N : Nat) (bd : Bd) (A : Option Addr) (c : Nat) (ok : BdOk N bd) (hN : N ≤ 99940) (a : Int) (n : Int) :
    ACalls Tryz.prog 73 [pv p, zi a, zi n] (BdE p bd A c) (BR (mShl a n) bd p (N + 4) zi) := by
 refine ACalls.intro Tryz.func73 rfl Tryz.ntmps73 nB rfl fun X w0 => ?_
 refine ra ?_
 refine rs (ym ?_)
 refine ym ?_
 refine ym ?_
 refine cE ce_78 [] (BdE p bd A c) rfl rfl rfl (cOpC p N bd A c ok (by omega) 12 a n) ?_
 rintro t10 S10 ⟨d1, bd1, A1, c1, e1, ok1, rfl, rfl⟩
 refine ya ?_
 refine AW.ret (retI (.tmp rfl .nil) ?_)
 exact ⟨_, _, _, _, e1, ok1, rfl, rfl⟩

set_option maxHeartbeats 4000000 in
theorem cShr (p N : Nat) (bd : Bd) (A : Option Addr) (c : Nat) (ok : BdOk N bd) (hN : N ≤ 99940) (a : Int) (n : Int) :
    ACalls Tryz.prog 74 [pv p, zi a, zi n] (BdE p bd A c) (BR (mShr a n) bd p (N + 4) zi) := by
 refine ACalls.intro Tryz.func74 rfl Tryz.ntmps74 nB rfl fun X w0 => ?_
 refine ra ?_
 refine rs (ym ?_)
 refine ym ?_
 refine ym ?_
 refine cE ce_78 [] (BdE p bd A c) rfl rfl rfl (cOpC p N bd A c ok (by omega) 13 a n) ?_
 rintro t10 S10 ⟨d1, bd1, A1, c1, e1, ok1, rfl, rfl⟩
 refine ya ?_
 refine AW.ret (retI (.tmp rfl .nil) ?_)
 exact ⟨_, _, _, _, e1, ok1, rfl, rfl⟩

set_option maxHeartbeats 4000000 in
theorem cIncr (p N : Nat) (bd : Bd) (A : Option Addr) (c : Nat) (ok : BdOk N bd) (hN : N ≤ 99940) (d : Int) (n : Int) :
    ACalls Tryz.prog 79 [pv p, zi d, zi n] (BdE p bd A c) (BR (mIncr d n) bd p (N + 3) (fun _ => .tup [])) := by
 refine ACalls.intro Tryz.func79 rfl Tryz.ntmps79 nB rfl fun X w0 => ?_
 refine AW.region ?_
 refine ym ?_
 refine ym ?_
 refine ym ?_
 refine ym ?_
 refine cE ce_133 [] (BdE p bd A c) rfl rfl rfl (cIntoC p N bd A c ok (by omega) d 3 d n) ?_
 rintro t10 S10 ⟨d1, bd1, A1, c1, e1, ok1, rfl, rfl⟩
 refine nl ?_
 refine retN .nil ?_
 exact ⟨_, _, _, _, e1, ok1, rfl, rfl⟩

set_option maxHeartbeats 4000000 in
theorem cLoad (p N : Nat) (bd : Bd) (A : Option Addr) (c : Nat) (ok : BdOk N bd) (hN : N ≤ 99980) (a : Int) (off : Int) (size : Int) :
    ACalls Tryz.prog 136 [pv p, zi a, zi off, zi size] (BdE p bd A c) (BR (mLoad a off size) bd p (N + 2) zi) := by
 refine ACalls.intro Tryz.func136 rfl Tryz.ntmps136 nB rfl fun X w0 => ?_
 refine ra ?_
 refine rs (ym ?_)
 refine cE ce_50 [] (BdE p bd A c) rfl rfl rfl (cReg p N bd A c ok (by omega) ) ?_
 rintro t11 S11 ⟨d1, bd1, A1, c1, e1, ok1, rfl, rfl⟩
 refine ya ?_
 refine rs (ym ?_)
 refine ym ?_
 refine ym ?_
 refine ym ?_
 refine ym ?_
 refine Y1 (Yv.buildS rfl sh_98 (evpC eV (evpC eV (evpC eV (evpC eV (evpC eV evp0))))) (fun _ => rfl)) ?_
 refine cE ce_51 [] (BdE p bd1 A1 c1) rfl rfl rfl ((cPut p (N + 1) bd1 A1 c1 ok1 (by omega) (insI 17 d1 a 0 0 0 0 0 size off)).le (.cons .refl (.cons nil_le .refl))) ?_
 rintro t18 S18 ⟨d2, bd2, A2, c2, e2, ok2, rfl, rfl⟩
 refine nl ?_
 refine rs (ym ?_)
 refine ya ?_
 refine AW.ret (retI (.tmp rfl .nil) ?_)
 exact ⟨_, _, _, _, (bq e1).trans ((bq e2)), ok2, rfl, rfl⟩

set_option maxHeartbeats 4000000 in
theorem cGet (p N : Nat) (bd : Bd) (A : Option Addr) (c : Nat) (ok : BdOk N bd) (hN : N ≤ 99960) (a : Int) (off : Int) :
    ACalls Tryz.prog 99 [pv p, zi a, zi off] (BdE p bd A c) (BR (mGet a off) bd p (N + 2) zi) := by
 refine ACalls.intro Tryz.func99 rfl Tryz.ntmps99 nB rfl fun X w0 => ?_
 refine ra ?_
 refine rs (ym ?_)
 refine ym ?_
 refine ym ?_
 refine cE ce_136 [] (BdE p bd A c) rfl rfl rfl (cLoad p N bd A c ok (by omega) a off 8) ?_
 rintro t10 S10 ⟨d1, bd1, A1, c1, e1, ok1, rfl, rfl⟩
 refine ya ?_
 refine AW.ret (retI (.tmp rfl .nil) ?_)
 exact ⟨_, _, _, _, e1, ok1, rfl, rfl⟩

set_option maxHeartbeats 4000000 in
theorem cStore (p N : Nat) (bd : Bd) (A : Option Addr) (c : Nat) (ok : BdOk N bd) (hN : N ≤ 99980) (a : Int) (off : Int) (size : Int) (x : Int) :
    ACalls Tryz.prog 135 [pv p, zi a, zi off, zi size, zi x] (BdE p bd A c) (BR (mStore a off size x) bd p (N + 1) (fun _ => .tup [])) := by
 refine ACalls.intro Tryz.func135 rfl Tryz.ntmps135 nB rfl fun X w0 => ?_
 refine AW.region ?_
 refine ym ?_
 refine ym ?_
 refine ym ?_
 refine ym ?_
 refine ym ?_
 refine Y1 (Yv.buildS rfl sh_98 (evpC eV (evpC eV (evpC eV (evpC eV (evpC eV evp0))))) (fun _ => rfl)) ?_
 refine cE ce_51 [] (BdE p bd A c) rfl rfl rfl ((cPut p N bd A c ok (by omega) (insI 18 0 a x 0 0 0 0 size off)).le (.cons .refl (.cons nil_le .refl))) ?_
 rintro t16 S16 ⟨d1, bd1, A1, c1, e1, ok1, rfl, rfl⟩
 refine nl ?_
 refine retN .nil ?_
 exact ⟨_, _, _, _, e1, ok1, rfl, rfl⟩

set_option maxHeartbeats 4000000 in
theorem cSave (p N : Nat) (bd : Bd) (A : Option Addr) (c : Nat) (ok : BdOk N bd) (hN : N ≤ 99960) (a : Int) (off : Int) (x : Int) :
    ACalls Tryz.prog 92 [pv p, zi a, zi off, zi x] (BdE p bd A c) (BR (mSave a off x) bd p (N + 1) (fun _ => .tup [])) := by
 refine ACalls.intro Tryz.func92 rfl Tryz.ntmps92 nB rfl fun X w0 => ?_
 refine AW.region ?_
 refine ym ?_
 refine ym ?_
 refine ym ?_
 refine ym ?_
 refine cE ce_135 [] (BdE p bd A c) rfl rfl rfl (cStore p N bd A c ok (by omega) a off 8 x) ?_
 rintro t12 S12 ⟨d1, bd1, A1, c1, e1, ok1, rfl, rfl⟩
 refine nl ?_
 refine retN .nil ?_
 exact ⟨_, _, _, _, e1, ok1, rfl, rfl⟩

set_option maxHeartbeats 4000000 in
theorem cData (p N : Nat) (bd : Bd) (A : Option Addr) (c : Nat) (ok : BdOk N bd) (hN : N ≤ 99980) (off : Int) :
    ACalls Tryz.prog 106 [pv p, zi off] (BdE p bd A c) (BR (mData off) bd p (N + 2) zi) := by
 refine ACalls.intro Tryz.func106 rfl Tryz.ntmps106 nB rfl fun X w0 => ?_
 refine ra ?_
 refine rs (ym ?_)
 refine cE ce_50 [] (BdE p bd A c) rfl rfl rfl (cReg p N bd A c ok (by omega) ) ?_
 rintro t7 S7 ⟨d1, bd1, A1, c1, e1, ok1, rfl, rfl⟩
 refine ya ?_
 refine rs (ym ?_)
 refine ym ?_
 refine ym ?_
 refine Y1 (Yv.buildS rfl sh_98 (evpC eV (evpC eV (evpC eV evp0))) (fun _ => rfl)) ?_
 refine cE ce_51 [] (BdE p bd1 A1 c1) rfl rfl rfl ((cPut p (N + 1) bd1 A1 c1 ok1 (by omega) (insI 27 d1 0 0 0 0 0 0 0 off)).le (.cons .refl (.cons nil_le .refl))) ?_
 rintro t12 S12 ⟨d2, bd2, A2, c2, e2, ok2, rfl, rfl⟩
 refine nl ?_
 refine rs (ym ?_)
 refine ya ?_
 refine AW.ret (retI (.tmp rfl .nil) ?_)
 exact ⟨_, _, _, _, (bq e1).trans ((bq e2)), ok2, rfl, rfl⟩

set_option maxHeartbeats 4000000 in
theorem cCell (p N : Nat) (bd : Bd) (A : Option Addr) (c : Nat) (ok : BdOk N bd) (hN : N ≤ 99940) (off : Int) :
    ACalls Tryz.prog 87 [pv p, zi off] (BdE p bd A c) (BR (mCell off) bd p (N + 4) zi) := by
 refine ACalls.intro Tryz.func87 rfl Tryz.ntmps87 nB rfl fun X w0 => ?_
 refine ra ?_
 refine rs (ym ?_)
 refine ym ?_
 refine ym ?_
 refine cE ce_106 [] (BdE p bd A c) rfl rfl rfl (cData p N bd A c ok (by omega) off) ?_
 rintro t8 S8 ⟨d1, bd1, A1, c1, e1, ok1, rfl, rfl⟩
 refine cE ce_99 [] (BdE p bd1 A1 c1) rfl rfl rfl (cGet p (N + 2) bd1 A1 c1 ok1 (by omega) d1 0) ?_
 rintro t9 S9 ⟨d2, bd2, A2, c2, e2, ok2, rfl, rfl⟩
 refine ya ?_
 refine AW.ret (retI (.tmp rfl .nil) ?_)
 exact ⟨_, _, _, _, (bq e1).trans (e2), ok2, rfl, rfl⟩

set_option maxHeartbeats 4000000 in
theorem cSetCell (p N : Nat) (bd : Bd) (A : Option Addr) (c : Nat) (ok : BdOk N bd) (hN : N ≤ 99940) (off : Int) (x : Int) :
    ACalls Tryz.prog 76 [pv p, zi off, zi x] (BdE p bd A c) (BR (mSetCell off x) bd p (N + 3) (fun _ => .tup [])) := by
 refine ACalls.intro Tryz.func76 rfl Tryz.ntmps76 nB rfl fun X w0 => ?_
 refine AW.region ?_
 refine ym ?_
 refine ym ?_
 refine ym ?_
 refine cE ce_106 [] (BdE p bd A c) rfl rfl rfl (cData p N bd A c ok (by omega) off) ?_
 rintro t9 S9 ⟨d1, bd1, A1, c1, e1, ok1, rfl, rfl⟩
 refine ym ?_
 refine cE ce_92 [] (BdE p bd1 A1 c1) rfl rfl rfl (cSave p (N + 2) bd1 A1 c1 ok1 (by omega) d1 0 x) ?_
 rintro t11 S11 ⟨d2, bd2, A2, c2, e2, ok2, rfl, rfl⟩
 refine nl ?_
 refine retN .nil ?_
 exact ⟨_, _, _, _, (bq e1).trans (e2), ok2, rfl, rfl⟩

set_option maxHeartbeats 4000000 in
theorem cAt (p N : Nat) (bd : Bd) (A : Option Addr) (c : Nat) (ok : BdOk N bd) (hN : N ≤ 99980) (l : Int) :
    ACalls Tryz.prog 88 [pv p, zi l] (BdE p bd A c) (BR (mAt l) bd p (N + 1) (fun _ => .tup [])) := by
 refine ACalls.intro Tryz.func88 rfl Tryz.ntmps88 nB rfl fun X w0 => ?_
 refine AW.region ?_
 refine ym ?_
 refine ym ?_
 refine Y1 (Yv.buildS rfl sh_98 (evpC eV (evpC eV evp0)) (fun _ => rfl)) ?_
 refine cE ce_51 [] (BdE p bd A c) rfl rfl rfl ((cPut p N bd A c ok (by omega) (insI 19 0 0 0 l 0 0 0 0 0)).le (.cons .refl (.cons nil_le .refl))) ?_
 rintro t7 S7 ⟨d1, bd1, A1, c1, e1, ok1, rfl, rfl⟩
 refine nl ?_
 refine retN .nil ?_
 exact ⟨_, _, _, _, e1, ok1, rfl, rfl⟩

set_option maxHeartbeats 4000000 in
theorem cJump (p N : Nat) (bd : Bd) (A : Option Addr) (c : Nat) (ok : BdOk N bd) (hN : N ≤ 99980) (l : Int) :
    ACalls Tryz.prog 89 [pv p, zi l] (BdE p bd A c) (BR (mJump l) bd p (N + 1) (fun _ => .tup [])) := by
 refine ACalls.intro Tryz.func89 rfl Tryz.ntmps89 nB rfl fun X w0 => ?_
 refine AW.region ?_
 refine ym ?_
 refine ym ?_
 refine Y1 (Yv.buildS rfl sh_98 (evpC eV (evpC eV evp0)) (fun _ => rfl)) ?_
 refine cE ce_51 [] (BdE p bd A c) rfl rfl rfl ((cPut p N bd A c ok (by omega) (insI 20 0 0 0 l 0 0 0 0 0)).le (.cons .refl (.cons nil_le .refl))) ?_
 rintro t7 S7 ⟨d1, bd1, A1, c1, e1, ok1, rfl, rfl⟩
 refine nl ?_
 refine retN .nil ?_
 exact ⟨_, _, _, _, e1, ok1, rfl, rfl⟩

set_option maxHeartbeats 4000000 in
theorem cIf (p N : Nat) (bd : Bd) (A : Option Addr) (c : Nat) (ok : BdOk N bd) (hN : N ≤ 99980) (cond : Int) (a : Int) (b : Int) (l : Int) :
    ACalls Tryz.prog 85 [pv p, zi cond, zi a, zi b, zi l] (BdE p bd A c) (BR (mIf cond a b l) bd p (N + 1) (fun _ => .tup [])) := by
 refine ACalls.intro Tryz.func85 rfl Tryz.ntmps85 nB rfl fun X w0 => ?_
 refine AW.region ?_
 refine ym ?_
 refine ym ?_
 refine ym ?_
 refine ym ?_
 refine ym ?_
 refine Y1 (Yv.buildS rfl sh_98 (evpC eV (evpC eV (evpC eV (evpC eV (evpC eV evp0))))) (fun _ => rfl)) ?_
 refine cE ce_51 [] (BdE p bd A c) rfl rfl rfl ((cPut p N bd A c ok (by omega) (insI 21 0 a b l 0 cond 0 0 0)).le (.cons .refl (.cons nil_le .refl))) ?_
 rintro t16 S16 ⟨d1, bd1, A1, c1, e1, ok1, rfl, rfl⟩
 refine nl ?_
 refine retN .nil ?_
 exact ⟨_, _, _, _, e1, ok1, rfl, rfl⟩

set_option maxHeartbeats 4000000 in
theorem cIfC (p N : Nat) (bd : Bd) (A : Option Addr) (c : Nat) (ok : BdOk N bd) (hN : N ≤ 99960) (cond : Int) (a : Int) (n : Int) (l : Int) :
    ACalls Tryz.prog 107 [pv p, zi cond, zi a, zi n, zi l] (BdE p bd A c) (BR (mIfC cond a n l) bd p (N + 3) (fun _ => .tup [])) := by
 refine ACalls.intro Tryz.func107 rfl Tryz.ntmps107 nB rfl fun X w0 => ?_
 refine AW.region ?_
 refine ym ?_
 refine ym ?_
 refine ym ?_
 refine ym ?_
 refine ym ?_
 refine cE ce_53 [] (BdE p bd A c) rfl rfl rfl (cC p N bd A c ok (by omega) n) ?_
 rintro t15 S15 ⟨d1, bd1, A1, c1, e1, ok1, rfl, rfl⟩
 refine ym ?_
 refine cE ce_85 [] (BdE p bd1 A1 c1) rfl rfl rfl (cIf p (N + 2) bd1 A1 c1 ok1 (by omega) cond a d1 l) ?_
 rintro t17 S17 ⟨d2, bd2, A2, c2, e2, ok2, rfl, rfl⟩
 refine nl ?_
 refine retN .nil ?_
 exact ⟨_, _, _, _, (bq e1).trans (e2), ok2, rfl, rfl⟩

set_option maxHeartbeats 4000000 in
theorem cRet (p N : Nat) (bd : Bd) (A : Option Addr) (c : Nat) (ok : BdOk N bd) (hN : N ≤ 99980) (a : Int) :
    ACalls Tryz.prog 52 [pv p, zi a] (BdE p bd A c) (BR (mRet a) bd p (N + 1) (fun _ => .tup [])) := by
 refine ACalls.intro Tryz.func52 rfl Tryz.ntmps52 nB rfl fun X w0 => ?_
 refine AW.region ?_
 refine ym ?_
 refine ym ?_
 refine Y1 (Yv.buildS rfl sh_98 (evpC eV (evpC eV evp0)) (fun _ => rfl)) ?_
 refine cE ce_51 [] (BdE p bd A c) rfl rfl rfl ((cPut p N bd A c ok (by omega) (insI 26 0 a 0 0 0 0 0 0 0)).le (.cons .refl (.cons nil_le .refl))) ?_
 rintro t7 S7 ⟨d1, bd1, A1, c1, e1, ok1, rfl, rfl⟩
 refine nl ?_
 refine retN .nil ?_
 exact ⟨_, _, _, _, e1, ok1, rfl, rfl⟩

set_option maxHeartbeats 4000000 in
theorem cRetC (p N : Nat) (bd : Bd) (A : Option Addr) (c : Nat) (ok : BdOk N bd) (hN : N ≤ 99960) (n : Int) :
    ACalls Tryz.prog 34 [pv p, zi n] (BdE p bd A c) (BR (mRetC n) bd p (N + 3) (fun _ => .tup [])) := by
 refine ACalls.intro Tryz.func34 rfl Tryz.ntmps34 nB rfl fun X w0 => ?_
 refine AW.region ?_
 refine ym ?_
 refine ym ?_
 refine ym ?_
 refine cE ce_53 [] (BdE p bd A c) rfl rfl rfl (cC p N bd A c ok (by omega) n) ?_
 rintro t7 S7 ⟨d1, bd1, A1, c1, e1, ok1, rfl, rfl⟩
 refine cE ce_52 [] (BdE p bd1 A1 c1) rfl rfl rfl (cRet p (N + 2) bd1 A1 c1 ok1 (by omega) d1) ?_
 rintro t8 S8 ⟨d2, bd2, A2, c2, e2, ok2, rfl, rfl⟩
 refine nl ?_
 refine retN .nil ?_
 exact ⟨_, _, _, _, (bq e1).trans (e2), ok2, rfl, rfl⟩

set_option maxHeartbeats 4000000 in
theorem cCall (p N : Nat) (bd : Bd) (A : Option Addr) (c : Nat) (ok : BdOk N bd) (hN : N ≤ 99980) (f : Int) (args : List Int) :
    ACalls Tryz.prog 33 [pv p, zi f, .sl 1 (args.map zi)] (BdE p bd A c) (BR (mCall f args) bd p (N + 2) zi) := by
 refine ACalls.intro Tryz.func33 rfl Tryz.ntmps33 nB rfl fun X w0 => ?_
 refine ra ?_
 refine rs (ym ?_)
 refine cE ce_50 [] (BdE p bd A c) rfl rfl rfl (cReg p N bd A c ok (by omega) ) ?_
 rintro t9 S9 ⟨d1, bd1, A1, c1, e1, ok1, rfl, rfl⟩
 refine ya ?_
 refine rs (ym ?_)
 refine ym ?_
 refine ym ?_
 refine ym ?_
 refine Y1 (Yv.buildS rfl sh_98 (evpC eV (evpC eV (evpC eV (evpC eV evp0)))) (fun _ => rfl)) ?_
 refine cE ce_51 [] (BdE p bd1 A1 c1) rfl rfl rfl (cPut p (N + 1) bd1 A1 c1 ok1 (by omega) ⟨(22), (d1), (0), (0), (0), (f), (0), (0), (0), (0), args⟩) ?_
 rintro t15 S15 ⟨d2, bd2, A2, c2, e2, ok2, rfl, rfl⟩
 refine nl ?_
 refine rs (ym ?_)
 refine ya ?_
 refine AW.ret (retI (.tmp rfl .nil) ?_)
 exact ⟨_, _, _, _, (bq e1).trans ((bq e2)), ok2, rfl, rfl⟩

set_option maxHeartbeats 4000000 in
theorem cTail (p N : Nat) (bd : Bd) (A : Option Addr) (c : Nat) (ok : BdOk N bd) (hN : N ≤ 99980) (f : Int) (args : List Int) :
    ACalls Tryz.prog 91 [pv p, zi f, .sl 1 (args.map zi)] (BdE p bd A c) (BR (mTail f args) bd p (N + 1) (fun _ => .tup [])) := by
 refine ACalls.intro Tryz.func91 rfl Tryz.ntmps91 nB rfl fun X w0 => ?_
 refine AW.region ?_
 refine ym ?_
 refine ym ?_
 refine ym ?_
 refine Y1 (Yv.buildS rfl sh_98 (evpC eV (evpC eV (evpC eV evp0))) (fun _ => rfl)) ?_
 refine cE ce_51 [] (BdE p bd A c) rfl rfl rfl (cPut p N bd A c ok (by omega) ⟨(24), (0), (0), (0), (0), (f), (0), (0), (0), (0), args⟩) ?_
 rintro t10 S10 ⟨d1, bd1, A1, c1, e1, ok1, rfl, rfl⟩
 refine nl ?_
 refine retN .nil ?_
 exact ⟨_, _, _, _, e1, ok1, rfl, rfl⟩

set_option maxHeartbeats 4000000 in
theorem cSys (p N : Nat) (bd : Bd) (A : Option Addr) (c : Nat) (ok : BdOk N bd) (hN : N ≤ 99980) (n : Int) (args : List Int) :
    ACalls Tryz.prog 105 [pv p, zi n, .sl 1 (args.map zi)] (BdE p bd A c) (BR (mSys n args) bd p (N + 2) zi) := by
 refine ACalls.intro Tryz.func105 rfl Tryz.ntmps105 nB rfl fun X w0 => ?_
 refine ra ?_
 refine rs (ym ?_)
 refine cE ce_50 [] (BdE p bd A c) rfl rfl rfl (cReg p N bd A c ok (by omega) ) ?_
 rintro t9 S9 ⟨d1, bd1, A1, c1, e1, ok1, rfl, rfl⟩
 refine ya ?_
 refine rs (ym ?_)
 refine ym ?_
 refine ym ?_
 refine ym ?_
 refine Y1 (Yv.buildS rfl sh_98 (evpC eV (evpC eV (evpC eV (evpC eV evp0)))) (fun _ => rfl)) ?_
 refine cE ce_51 [] (BdE p bd1 A1 c1) rfl rfl rfl (cPut p (N + 1) bd1 A1 c1 ok1 (by omega) ⟨(30), (d1), (0), (0), (0), (0), (0), (0), (0), (n), args⟩) ?_
 rintro t15 S15 ⟨d2, bd2, A2, c2, e2, ok2, rfl, rfl⟩
 refine nl ?_
 refine rs (ym ?_)
 refine ya ?_
 refine AW.ret (retI (.tmp rfl .nil) ?_)
 exact ⟨_, _, _, _, (bq e1).trans ((bq e2)), ok2, rfl, rfl⟩

set_option maxHeartbeats 4000000 in
theorem cEmptied (p N : Nat) (bd : Bd) (A : Option Addr) (c : Nat) (ok : BdOk N bd) (hN : N ≤ 99920)  :
    ACalls Tryz.prog 95 [pv p] (BdE p bd A c) (BR (mEmptied) bd p (N + 7) (fun _ => .tup [])) := by
 refine ACalls.intro Tryz.func95 rfl Tryz.ntmps95 nB rfl fun X w0 => ?_
 refine AW.region ?_
 refine ym ?_
 refine ym ?_
 refine cE ce_87 [] (BdE p bd A c) rfl rfl rfl (cCell p N bd A c ok (by omega) 256) ?_
 rintro t4 S4 ⟨d1, bd1, A1, c1, e1, ok1, rfl, rfl⟩
 refine cE ce_76 [] (BdE p bd1 A1 c1) rfl rfl rfl (cSetCell p (N + 4) bd1 A1 c1 ok1 (by omega) 264 d1) ?_
 rintro t5 S5 ⟨d2, bd2, A2, c2, e2, ok2, rfl, rfl⟩
 refine nl ?_
 refine retN .nil ?_
 exact ⟨_, _, _, _, (bq e1).trans (e2), ok2, rfl, rfl⟩

end Go.Proofs.YtpgbpdnmjeoeoaaGreat.B

namespace Go.Proofs.YtpgbpdnmjeoeoaaGreat.B
open Go Go.RowKit

set_option maxHeartbeats 4000000 in
theorem cNew (name : List UInt8) (params : Int) :
    ACalls Tryz.prog 32 [sv name, zi params] [] (fun t S => ∃ b, t = .v (.pointer (some ⟨b, 0, none⟩)) ∧ S = BdE b (bd0 name params) none 0) := by
 refine ACalls.intro Tryz.func32 rfl Tryz.ntmps32 nB rfl fun X w0 => ?_
 refine ra ?_
 refine rs (ym ?_)
 refine ym ?_
 refine ym ?_
 refine Y1 (Yv.buildS rfl sh_93 (evpC eV (evpC eV (evpC eV evp0))) (fun _ => rfl)) ?_
 refine ym ?_
 refine Y1 (Yv.buildS rfl sh_130 (evpC eV (evpC eV evp0)) (fun _ => rfl)) ?_
 refine AWL.boxOp rfl rfl (B rfl) rfl (E rfl rfl) rfl (fun b11 => ?_)
 refine AWL.perm (List.perm_append_singleton _ _).symm ?_
 refine ya ?_
 refine AW.rowNil 98 11 ?_
 refine AW.ret (retI (.tmp rfl .nil) ?_)
 exact ⟨b11, rfl, rfl⟩

set_option maxHeartbeats 4000000 in
theorem cDone_ (p : Nat) (bd : Bd) (A : Option Addr) (c : Nat) :
    ACalls Tryz.prog 35 [pv p] (BdE p bd A c) (fun t S => t = .agg (fnCells (fnB bd))) := by
 refine ACalls.intro Tryz.func35 rfl Tryz.ntmps35 nB rfl fun X w0 => ?_
 refine rs ?_
 refine AWL.allocOp rfl rfl (B rfl) rfl zc_93 (fun b2 => ?_)
 refine AWL.perm (List.perm_append_singleton _ _).symm (nl ?_)
 refine rs (ym ?_)
 refine Y1 (Yv.nilChk rfl eV) ?_
 refine yf fo_130_0 ?_
 refine Y1 (Yv.loadBoxA rfl ag_93 (i := 1) rfl eV rfl rfl) ?_
 refine AWL.storeBox (i := 0) rfl rfl rfl ag_93 rfl (E rfl rfl) (E rfl rfl) rfl rfl nB (nl ?_)
 refine AW.freezeCell 2 0 4 rfl (by decide) rfl rfl ?_
 refine AW.ret (retI (.cellA (i := 0) rfl ag_93 rfl rfl rfl .nil) ?_)
 rfl

theorem cDone (p : Nat) (bd : Bd) (A : Option Addr) (c : Nat) : ACalls Tryz.prog 35 [pv p] (BdE p bd A c) (fun t S => t = .agg (fnCells (fnB bd)) ∧ S = []) := (cDone_ p bd A c).less fun t S' h => ⟨[], List.nil_sublist _, h, rfl⟩
set_option maxHeartbeats 4000000 in
theorem turned142 (k : Int) :
    ACalls Tryz.prog 142 [zi k] [] (fun t S => t = .tup [zi (turnF k).1, bv (turnF k).2]) := by
 refine ACalls.intro Tryz.func142 rfl Tryz.ntmps142 nB rfl fun X w0 => ?_
 refine rs (Y1 (Yv.assign rfl eV) ?_)
 refine ya ?_
 refine AW.seq ?_
 refine rs (ym (nl ?_))
 refine AW.block ?_
 refine rs (Y1 (Yv.eql rfl eV eV) ?_)
 refine ya ?_
 refine AW.cond rfl (fun h0t => ?_) (fun h0f => ?_)
 ·try replace h0t := odt h0t
  refine rs (Y1 (Yv.assign rfl eV) ?_)
  refine ya ?_
  refine AW.ret (retI (.tmp rfl (.tmp rfl .nil)) ?_)
  unfold turnF
  rw [if_pos (by omega)]
  rfl
 try replace h0f := odf h0f
 refine rs (Y1 (Yv.eql rfl eV eV) ?_)
 refine ya ?_
 refine AW.cond rfl (fun h1t => ?_) (fun h1f => ?_)
 ·try replace h1t := odt h1t
  refine rs (Y1 (Yv.assign rfl eV) ?_)
  refine ya ?_
  refine AW.ret (retI (.tmp rfl (.tmp rfl .nil)) ?_)
  unfold turnF
  rw [if_neg (by omega), if_pos (by omega)]
  rfl
 try replace h1f := odf h1f
 refine rs (Y1 (Yv.eql rfl eV eV) ?_)
 refine ya ?_
 refine AW.cond rfl (fun h2t => ?_) (fun h2f => ?_)
 ·try replace h2t := odt h2t
  refine rs (Y1 (Yv.assign rfl eV) ?_)
  refine ya ?_
  refine AW.ret (retI (.tmp rfl (.tmp rfl .nil)) ?_)
  unfold turnF
  rw [if_neg (by omega), if_neg (by omega), if_pos (by omega)]
  rfl
 try replace h2f := odf h2f
 refine rs (Y1 (Yv.eql rfl eV eV) ?_)
 refine ya ?_
 refine AW.cond rfl (fun h3t => ?_) (fun h3f => ?_)
 ·try replace h3t := odt h3t
  refine rs (Y1 (Yv.assign rfl eV) ?_)
  refine ya ?_
  refine AW.ret (retI (.tmp rfl (.tmp rfl .nil)) ?_)
  unfold turnF
  rw [if_neg (by omega), if_neg (by omega), if_neg (by omega), if_pos (by omega)]
  rfl
 try replace h3f := odf h3f
 refine rs (Y1 (Yv.eql rfl eV eV) ?_)
 refine ya ?_
 refine AW.cond rfl (fun h4t => ?_) (fun h4f => ?_)
 ·try replace h4t := odt h4t
  refine rs (Y1 (Yv.assign rfl eV) ?_)
  refine ya ?_
  refine AW.ret (retI (.tmp rfl (.tmp rfl .nil)) ?_)
  unfold turnF
  rw [if_neg (by omega), if_neg (by omega), if_neg (by omega), if_neg (by omega), if_pos (by omega)]
  rfl
 try replace h4f := odf h4f
 refine AW.skip ?_
 refine rs (Y1 (Yv.assign rfl eV) ?_)
 refine ya ?_
 refine AW.ret (retI (.tmp rfl (.tmp rfl .nil)) ?_)
 unfold turnF
 rw [if_neg (by omega), if_neg (by omega), if_neg (by omega), if_neg (by omega), if_neg (by omega)]
 rfl

set_option maxHeartbeats 4000000 in
theorem cUnless (p N : Nat) (bd : Bd) (A : Option Addr) (c : Nat) (ok : BdOk N bd) (hN : N ≤ 99980) (cond a b l : Int) :
    ACalls Tryz.prog 134 [pv p, zi cond, zi a, zi b, zi l] (BdE p bd A c) (BR (mUnless cond a b l) bd p (N + 1) (fun _ => .tup [])) := by
 refine ACalls.intro Tryz.func134 rfl Tryz.ntmps134 nB rfl fun X w0 => ?_
 refine rs (ym ?_)
 refine AWL.callT rfl rfl (B rfl) rfl ce_142 (E rfl rfl) (evsC (E rfl rfl) evs0) (turned142 cond) ?_
 rintro t14 S14 rfl
 refine ym ?_
 refine Y1 (Yv.extract rfl eV rfl) ?_
 refine Y1 (Yv.extract rfl eV rfl) ?_
 refine Y1 (Yv.assign rfl eV) ?_
 refine ya ?_
 refine AW.seq ?_
 refine rs (ym (nl ?_))
 refine AW.cond rfl (fun h0t => ?_) (fun h0f => ?_)
 ·try replace h0t := odt h0t
  refine AW.region ?_
  refine ym ?_
  refine ym ?_
  refine Y1 (Yv.assign rfl eV) ?_
  refine ya ?_
  refine AW.region ?_
  refine ym ?_
  refine ym ?_
  refine ym ?_
  refine ym ?_
  refine ym ?_
  refine cE ce_85 [] (BdE p bd A c) rfl rfl rfl (cIf p N bd A c ok (by omega) ((turnF cond).1) b a l) ?_
  rintro t25 S25 ⟨d1, bd1, A1, c1, e1, ok1, rfl, rfl⟩
  refine nl ?_
  refine retN .nil ?_
  exact ⟨_, _, _, _, (by unfold mUnless; rw [if_pos h0t]; exact e1), ok1, rfl, rfl⟩
 try replace h0f := odf h0f
 refine AW.skip ?_
 refine AW.region ?_
 refine ym ?_
 refine ym ?_
 refine ym ?_
 refine ym ?_
 refine ym ?_
 refine cE ce_85 [] (BdE p bd A c) rfl rfl rfl (cIf p N bd A c ok (by omega) ((turnF cond).1) a b l) ?_
 rintro t25 S25 ⟨d1, bd1, A1, c1, e1, ok1, rfl, rfl⟩
 refine nl ?_
 refine retN .nil ?_
 exact ⟨_, _, _, _, (by unfold mUnless; rw [if_neg (fun q => by rw [h0f] at q; cases q)]; exact e1), ok1, rfl, rfl⟩

set_option maxHeartbeats 4000000 in
theorem cThen (p N K : Nat) (bd : Bd) (A : Option Addr) (c : Nat) (ok : BdOk N bd) (hN : N + K ≤ 99000) (cond a b : Int) (fd : FuncId) (cap : Array Value) (F : St) (f : BM Unit) (hce : calleeB Tryz.prog fd = true) (hdo : (∀ bd' A' c', BdOk (N + 2) bd' → ACalls Tryz.prog fd (cap.toList.map T.v) (F ++ BdE p bd' A' c') (BRF f bd' p (N + 2 + K) F))) :
    ACalls Tryz.prog 80 [pv p, zi cond, zi a, zi b, .v (.func (.func fd) #[] cap)] (F ++ BdE p bd A c) (BRF (mThen cond a b f) bd p (N + 2 + K + 1) F) := by
 refine ACalls.intro Tryz.func80 rfl Tryz.ntmps80 nB rfl fun X w0 => ?_
 refine rs (ym ?_)
 refine cE ce_84 F (BdE p bd A c) rfl rfl rfl (cLabel p N bd A c ok (by omega) ) ?_
 rintro t12 S12 ⟨d1, bd1, A1, c1, e1, ok1, rfl, rfl⟩
 refine ya ?_
 refine rs (ym ?_)
 refine ym ?_
 refine ym ?_
 refine ym ?_
 refine ym ?_
 refine cE ce_134 F (BdE p bd1 A1 c1) rfl rfl rfl (cUnless p (N + 1) bd1 A1 c1 ok1 (by omega) cond a b d1) ?_
 rintro t18 S18 ⟨d2, bd2, A2, c2, e2, ok2, rfl, rfl⟩
 refine nl ?_
 refine rs (ym ?_)
 refine cA hce rfl rfl rfl (hdo bd2 A2 c2 ok2) ?_
 rintro t20 S20 ⟨rfl, bd3, A3, c3, e3, ok3, rfl⟩
 refine nl ?_
 refine AW.region ?_
 refine ym ?_
 refine ym ?_
 refine cE ce_88 F (BdE p bd3 A3 c3) rfl rfl rfl (cAt p (N + 2 + K) bd3 A3 c3 ok3 (by omega) d1) ?_
 rintro t23 S23 ⟨d4, bd4, A4, c4, e4, ok4, rfl, rfl⟩
 refine nl ?_
 refine retN .nil ?_
 exact ⟨rfl, _, _, _, (bq e1).trans ((bq e2).trans ((bq e3).trans e4)), ok4, rfl⟩

set_option maxHeartbeats 4000000 in
theorem cThenC (p N K : Nat) (bd : Bd) (A : Option Addr) (c : Nat) (ok : BdOk N bd) (hN : N + K ≤ 98000) (cond a n : Int) (fd : FuncId) (cap : Array Value) (F : St) (f : BM Unit) (hce : calleeB Tryz.prog fd = true) (hdo : (∀ bd' A' c', BdOk (N + 4) bd' → ACalls Tryz.prog fd (cap.toList.map T.v) (F ++ BdE p bd' A' c') (BRF f bd' p (N + 4 + K) F))) :
    ACalls Tryz.prog 102 [pv p, zi cond, zi a, zi n, .v (.func (.func fd) #[] cap)] (F ++ BdE p bd A c) (BRF (mThenC cond a n f) bd p (N + 4 + K + 1) F) := by
 refine ACalls.intro Tryz.func102 rfl Tryz.ntmps102 nB rfl fun X w0 => ?_
 refine AW.region ?_
 refine ym ?_
 refine ym ?_
 refine ym ?_
 refine ym ?_
 refine ym ?_
 refine cE ce_53 F (BdE p bd A c) rfl rfl rfl (cC p N bd A c ok (by omega) n) ?_
 rintro t15 S15 ⟨d1, bd1, A1, c1, e1, ok1, rfl, rfl⟩
 refine ym ?_
 refine cA ce_80 rfl rfl rfl (cThen p (N + 2) K bd1 A1 c1 ok1 (by omega) cond a d1 fd cap F f hce hdo) ?_
 rintro t17 S17 ⟨rfl, bd2, A2, c2, e2, ok2, rfl⟩
 refine nl ?_
 refine retN .nil ?_
 exact ⟨rfl, _, _, _, (bq e1).trans e2, ok2, rfl⟩

set_option maxHeartbeats 4000000 in
theorem cWhile (p N K K1 : Nat) (bd : Bd) (A : Option Addr) (c : Nat) (ok : BdOk N bd) (hN : N + K + K1 ≤ 98000) (cond : Int) (fs fd : FuncId) (caps cap : Array Value) (F : St) (g : BM (Int × Int)) (f : BM Unit) (hcs : calleeB Tryz.prog fs = true) (hce : calleeB Tryz.prog fd = true) (hsd : (∀ bd' A' c', BdOk (N + 3) bd' → ACalls Tryz.prog fs (caps.toList.map T.v) (F ++ BdE p bd' A' c') (BR2 g bd' p (N + 3 + K1) F))) (hdo : (∀ bd' A' c', BdOk (N + 3 + K1 + 1) bd' → ACalls Tryz.prog fd (cap.toList.map T.v) (F ++ BdE p bd' A' c') (BRF f bd' p (N + 3 + K1 + 1 + K) F))) :
    ACalls Tryz.prog 96 [pv p, zi cond, .v (.func (.func fs) #[] caps), .v (.func (.func fd) #[] cap)] (F ++ BdE p bd A c) (BRF (mWhile cond g f) bd p (N + 3 + K1 + 1 + K + 2) F) := by
 refine ACalls.intro Tryz.func96 rfl Tryz.ntmps96 nB rfl fun X w0 => ?_
 refine rs (ym ?_)
 refine cE ce_84 F (BdE p bd A c) rfl rfl rfl (cLabel p N bd A c ok (by omega) ) ?_
 rintro t13 S13 ⟨d1, bd1, A1, c1, e1, ok1, rfl, rfl⟩
 refine ym ?_
 refine cE ce_84 F (BdE p bd1 A1 c1) rfl rfl rfl (cLabel p (N + 1) bd1 A1 c1 ok1 (by omega) ) ?_
 rintro t15 S15 ⟨d2, bd2, A2, c2, e2, ok2, rfl, rfl⟩
 refine Y1 (Yv.assign rfl eV) ?_
 refine ya ?_
 refine rs (ym ?_)
 refine ym ?_
 refine cE ce_88 F (BdE p bd2 A2 c2) rfl rfl rfl (cAt p (N + 2) bd2 A2 c2 ok2 (by omega) d1) ?_
 rintro t18 S18 ⟨d3, bd3, A3, c3, e3, ok3, rfl, rfl⟩
 refine nl ?_
 refine rs (ym ?_)
 refine AWL.callAll rfl rfl (B rfl) rfl hcs (E rfl rfl) evs0 (hsd bd3 A3 c3 ok3) ?_
 rintro t21 S21 ⟨x4, y4, bd4, A4, c4, rfl, e4, ok4, rfl⟩
 refine ym ?_
 refine Y1 (Yv.extract rfl eV rfl) ?_
 refine Y1 (Yv.extract rfl eV rfl) ?_
 refine Y1 (Yv.assign rfl eV) ?_
 refine ya ?_
 refine rs (ym ?_)
 refine ym ?_
 refine ym ?_
 refine ym ?_
 refine ym ?_
 refine cE ce_134 F (BdE p bd4 A4 c4) rfl rfl rfl (cUnless p (N + 3 + K1) bd4 A4 c4 ok4 (by omega) cond x4 y4 d2) ?_
 rintro t29 S29 ⟨d5, bd5, A5, c5, e5, ok5, rfl, rfl⟩
 refine nl ?_
 refine rs (ym ?_)
 refine cA hce rfl rfl rfl (hdo bd5 A5 c5 ok5) ?_
 rintro t31 S31 ⟨rfl, bd6, A6, c6, e6, ok6, rfl⟩
 refine nl ?_
 refine rs (ym ?_)
 refine ym ?_
 refine cE ce_89 F (BdE p bd6 A6 c6) rfl rfl rfl (cJump p (N + 3 + K1 + 1 + K) bd6 A6 c6 ok6 (by omega) d1) ?_
 rintro t34 S34 ⟨d7, bd7, A7, c7, e7, ok7, rfl, rfl⟩
 refine nl ?_
 refine AW.region ?_
 refine ym ?_
 refine ym ?_
 refine cE ce_88 F (BdE p bd7 A7 c7) rfl rfl rfl (cAt p ((N + 3 + K1 + 1 + K) + 1) bd7 A7 c7 ok7 (by omega) d2) ?_
 rintro t37 S37 ⟨d8, bd8, A8, c8, e8, ok8, rfl, rfl⟩
 refine nl ?_
 refine retN .nil ?_
 exact ⟨rfl, _, _, _, (bq e1).trans ((bq e2).trans ((bq e3).trans ((bq e4).trans ((bq e5).trans ((bq e6).trans ((bq e7).trans e8)))))), ok8, rfl⟩

end Go.Proofs.YtpgbpdnmjeoeoaaGreat.B

namespace Go.Proofs.YtpgbpdnmjeoeoaaGreat.B
open Go Go.RowKit

def mStart2 (v1 : Int) : BM Unit :=
 mSetC (v1) (16777216)
set_option maxHeartbeats 4000000 in
theorem cStart2 (p N : Nat) (bd : Bd) (A : Option Addr) (c : Nat) (ok : BdOk N bd) (hN : N ≤ 90000) (F : St) (i0 g0 : Nat) (h0 : F[i0]? = some (p87 g0 p)) (i1 g1 : Nat) (v1 : Int) (h1 : F[i1]? = some (Ent.box g1 3 [zi v1])) :
    ACalls Tryz.prog 81 [pv g0, pv g1] (F ++ BdE p bd A c) (BRF (mStart2 v1) bd p (N + 1) F) := by
 refine ACalls.intro Tryz.func81 rfl Tryz.ntmps81 nB rfl fun X w0 => ?_
 refine AW.region ?_
 refine Y1 (Yv.loadBox rfl ag_87 (i := i0) (appS (l := F) h0) eV rfl) ?_
 refine Y1 (Yv.loadBox rfl ag_3 (i := i1) (appS (l := F) h1) eV rfl) ?_
 refine cE ce_82 F (BdE p bd A c) rfl rfl rfl (cSetC p N bd A c ok (by omega) v1 16777216) ?_
 rintro t4 S4 ⟨d1, bd1, A1, c1, e1, ok1, rfl, rfl⟩
 refine nl ?_
 refine retN .nil ?_
 exact ⟨rfl, _, _, _, e1, ok1, rfl⟩

def mAlloc1 : BM Unit :=
 mTail ((1 + 5)) []
set_option maxHeartbeats 4000000 in
theorem cAlloc1 (p N : Nat) (bd : Bd) (A : Option Addr) (c : Nat) (ok : BdOk N bd) (hN : N ≤ 90000) (F : St) (i0 g0 : Nat) (h0 : F[i0]? = some (p87 g0 p)) (i1 g1 : Nat) (h1 : F[i1]? = some (Ent.box g1 3 [zi 1])) :
    ACalls Tryz.prog 90 [pv g0, pv g1] (F ++ BdE p bd A c) (BRF (mAlloc1 ) bd p (N + 1) F) := by
 refine ACalls.intro Tryz.func90 rfl Tryz.ntmps90 nB rfl fun X w0 => ?_
 refine AW.region ?_
 refine Y1 (Yv.loadBox rfl ag_87 (i := i0) (appS (l := F) h0) eV rfl) ?_
 refine Y1 (Yv.loadBox rfl ag_3 (i := i1) (appS (l := F) h1) eV rfl) ?_
 refine Y1 (Yv.addN_i64 rfl eV eV (fun hg => by omega)) ?_
 refine cE ce_91 F (BdE p bd A c) rfl rfl rfl ((cTail p N bd A c ok (by omega) ((1 + 5)) []).le (.cons .refl (.cons .refl (.cons nilSl (.refl))))) ?_
 rintro t5 S5 ⟨d1, bd1, A1, c1, e1, ok1, rfl, rfl⟩
 refine nl ?_
 refine retN .nil ?_
 exact ⟨rfl, _, _, _, e1, ok1, rfl⟩

def mMinor1 : BM Unit :=
 mTail ((1 + 3)) []
set_option maxHeartbeats 4000000 in
theorem cMinor1 (p N : Nat) (bd : Bd) (A : Option Addr) (c : Nat) (ok : BdOk N bd) (hN : N ≤ 90000) (F : St) (i0 g0 : Nat) (h0 : F[i0]? = some (p87 g0 p)) (i1 g1 : Nat) (h1 : F[i1]? = some (Ent.box g1 3 [zi 1])) :
    ACalls Tryz.prog 94 [pv g0, pv g1] (F ++ BdE p bd A c) (BRF (mMinor1 ) bd p (N + 1) F) := by
 refine ACalls.intro Tryz.func94 rfl Tryz.ntmps94 nB rfl fun X w0 => ?_
 refine AW.region ?_
 refine Y1 (Yv.loadBox rfl ag_87 (i := i0) (appS (l := F) h0) eV rfl) ?_
 refine Y1 (Yv.loadBox rfl ag_3 (i := i1) (appS (l := F) h1) eV rfl) ?_
 refine Y1 (Yv.addN_i64 rfl eV eV (fun hg => by omega)) ?_
 refine cE ce_91 F (BdE p bd A c) rfl rfl rfl ((cTail p N bd A c ok (by omega) ((1 + 3)) []).le (.cons .refl (.cons .refl (.cons nilSl (.refl))))) ?_
 rintro t5 S5 ⟨d1, bd1, A1, c1, e1, ok1, rfl, rfl⟩
 refine nl ?_
 refine retN .nil ?_
 exact ⟨rfl, _, _, _, e1, ok1, rfl⟩

def mMajor1 (v0 : Int) : BM (Int × Int) :=
 bnd (mCell (320)) fun d1 =>
 rtn ((v0), (d1))
set_option maxHeartbeats 4000000 in
theorem cMajor1 (p N : Nat) (bd : Bd) (A : Option Addr) (c : Nat) (ok : BdOk N bd) (hN : N ≤ 90000) (F : St) (i0 g0 : Nat) (v0 : Int) (h0 : F[i0]? = some (Ent.box g0 3 [zi v0])) (i1 g1 : Nat) (h1 : F[i1]? = some (p87 g1 p)) :
    ACalls Tryz.prog 97 [pv g0, pv g1] (F ++ BdE p bd A c) (BR2 (mMajor1 v0) bd p (N + 4) F) := by
 refine ACalls.intro Tryz.func97 rfl Tryz.ntmps97 nB rfl fun X w0 => ?_
 refine rs (Y1 (Yv.assign rfl eV) ?_)
 refine ya ?_
 refine AW.rseqH (HeldCs [(g0, 0, Value.int .i64 (v0)), (g1, 0, Value.pointer (some ⟨p, 0, none⟩))]) rfl (tells_cs (tcB i0 (appS (l := F) h0) rfl pinV (tcB i1 (appS (l := F) h1) rfl pinV (tc0)))) ?_
 refine T2 (i := 0) rfl (heldB 0 rfl ag_3 (E rfl rfl) rfl (fun _ _ => .v _)) ?_
 refine AWH.one (i := 1) (by kernel_rfl) rfl ?_
 refine Y1 (Yv.loadBox rfl ag_87 (i := i1) (appS (l := F) h1) eV rfl) ?_
 refine AWL.nil (kpH (tcB i0 (appS (l := F) h0) rfl pinV (tcB i1 (appS (l := F) h1) rfl pinV (tc0))) ?_)
 refine AWH.one (i := 2) (by kernel_rfl) rfl ?_
 refine cE ce_87 F (BdE p bd A c) rfl rfl rfl (cCell p N bd A c ok (by omega) 320) ?_
 rintro t6 S6 ⟨d1, bd1, A1, c1, e1, ok1, rfl, rfl⟩
 refine AWL.nil (kpH (tcB i0 (appS (l := F) h0) rfl pinV (tcB i1 (appS (l := F) h1) rfl pinV (tc0))) ?_)
 refine AWH.one (i := 3) (by kernel_rfl) rfl ?_
 refine Y1 (Yv.assign rfl eV) ?_
 refine AWL.nil (kpH (tcB i0 (appS (l := F) h0) rfl pinV (tcB i1 (appS (l := F) h1) rfl pinV (tc0))) ?_)
 refine AWH.one (i := 4) (by kernel_rfl) rfl ?_
 refine Y1 (Yv.assign rfl eV) ?_
 refine AWL.nil (kpH (tcB i0 (appS (l := F) h0) rfl pinV (tcB i1 (appS (l := F) h1) rfl pinV (tc0))) ?_)
 refine AWH.done (by kernel_rfl) ?_
 refine AW.ret (retI (.tmp rfl (.tmp rfl .nil)) ?_)
 exact ⟨_, _, _, _, _, rfl, (bq e1), ok1, rfl⟩

def mMajor2 (v1 : Int) : BM Unit :=
 bnd (mGet (v1) (0)) fun d1 =>
 bnd (mGet (d1) (0)) fun d2 =>
 bnd (mAnd (d2) ((-33))) fun d3 =>
 bnd (mSave (d1) (0) (d3)) fun _ =>
 mIncr (v1) (8)
set_option maxHeartbeats 4000000 in
theorem cMajor2 (p N : Nat) (bd : Bd) (A : Option Addr) (c : Nat) (ok : BdOk N bd) (hN : N ≤ 90000) (F : St) (i0 g0 : Nat) (h0 : F[i0]? = some (p87 g0 p)) (i1 g1 : Nat) (v1 : Int) (h1 : F[i1]? = some (Ent.box g1 3 [zi v1])) :
    ACalls Tryz.prog 98 [pv g0, pv g1] (F ++ BdE p bd A c) (BRF (mMajor2 v1) bd p (N + 12) F) := by
 refine ACalls.intro Tryz.func98 rfl Tryz.ntmps98 nB rfl fun X w0 => ?_
 refine rs (Y1 (Yv.loadBox rfl ag_87 (i := i0) (appS (l := F) h0) eV rfl) ?_)
 refine Y1 (Yv.loadBox rfl ag_3 (i := i1) (appS (l := F) h1) eV rfl) ?_
 refine cE ce_99 F (BdE p bd A c) rfl rfl rfl (cGet p N bd A c ok (by omega) v1 0) ?_
 rintro t5 S5 ⟨d1, bd1, A1, c1, e1, ok1, rfl, rfl⟩
 refine ya ?_
 refine AW.rseqH (HeldCs [(g0, 0, Value.pointer (some ⟨p, 0, none⟩)), (g1, 0, Value.int .i64 (v1))]) rfl (tells_cs (tcB i0 (appS (l := F) h0) rfl pinV (tcB i1 (appS (l := F) h1) rfl pinV (tc0)))) ?_
 refine T2 (i := 0) rfl (heldB 0 rfl ag_87 (E rfl rfl) rfl (fun _ _ => .v _)) ?_
 refine T2 (i := 1) rfl (heldAll (freeMove rfl (E rfl rfl))) ?_
 refine T2 (i := 2) rfl (heldB 0 rfl ag_87 (E rfl rfl) rfl (fun _ _ => .v _)) ?_
 refine T2 (i := 3) rfl (heldB 0 rfl ag_87 (E rfl rfl) rfl (fun _ _ => .v _)) ?_
 refine AWH.one (i := 4) (by kernel_rfl) rfl ?_
 refine ym ?_
 refine AWL.nil (kpH (tcB i0 (appS (l := F) h0) rfl pinV (tcB i1 (appS (l := F) h1) rfl pinV (tc0))) ?_)
 refine AWH.one (i := 5) (by kernel_rfl) rfl ?_
 refine cE ce_99 F (BdE p bd1 A1 c1) rfl rfl rfl (cGet p (N + 2) bd1 A1 c1 ok1 (by omega) d1 0) ?_
 rintro t11 S11 ⟨d2, bd2, A2, c2, e2, ok2, rfl, rfl⟩
 refine AWL.nil (kpH (tcB i0 (appS (l := F) h0) rfl pinV (tcB i1 (appS (l := F) h1) rfl pinV (tc0))) ?_)
 refine AWH.one (i := 6) (by kernel_rfl) rfl ?_
 refine cE ce_100 F (BdE p bd2 A2 c2) rfl rfl rfl (cAnd p (N + 4) bd2 A2 c2 ok2 (by omega) d2 ((-33))) ?_
 rintro t12 S12 ⟨d3, bd3, A3, c3, e3, ok3, rfl, rfl⟩
 refine AWL.nil (kpH (tcB i0 (appS (l := F) h0) rfl pinV (tcB i1 (appS (l := F) h1) rfl pinV (tc0))) ?_)
 refine AWH.one (i := 7) (by kernel_rfl) rfl ?_
 refine cE ce_92 F (BdE p bd3 A3 c3) rfl rfl rfl (cSave p (N + 8) bd3 A3 c3 ok3 (by omega) d1 0 d3) ?_
 rintro t13 S13 ⟨d4, bd4, A4, c4, e4, ok4, rfl, rfl⟩
 refine AWL.nil (kpH (tcB i0 (appS (l := F) h0) rfl pinV (tcB i1 (appS (l := F) h1) rfl pinV (tc0))) ?_)
 refine AWH.done (by kernel_rfl) ?_
 refine AW.region ?_
 refine Y1 (Yv.loadBox rfl ag_87 (i := i0) (appS (l := F) h0) eV rfl) ?_
 refine Y1 (Yv.loadBox rfl ag_3 (i := i1) (appS (l := F) h1) eV rfl) ?_
 refine cE ce_79 F (BdE p bd4 A4 c4) rfl rfl rfl (cIncr p (N + 9) bd4 A4 c4 ok4 (by omega) v1 8) ?_
 rintro t16 S16 ⟨d5, bd5, A5, c5, e5, ok5, rfl, rfl⟩
 refine nl ?_
 refine retN .nil ?_
 exact ⟨rfl, _, _, _, (bq e1).trans ((bq e2).trans ((bq e3).trans ((bq e4).trans (e5)))), ok5, rfl⟩

def mMark11 : BM Unit :=
 mRetC (1)
set_option maxHeartbeats 4000000 in
theorem cMark11 (p N : Nat) (bd : Bd) (A : Option Addr) (c : Nat) (ok : BdOk N bd) (hN : N ≤ 90000) (F : St) (i0 g0 : Nat) (h0 : F[i0]? = some (p87 g0 p)) :
    ACalls Tryz.prog 103 [pv g0] (F ++ BdE p bd A c) (BRF (mMark11 ) bd p (N + 3) F) := by
 refine ACalls.intro Tryz.func103 rfl Tryz.ntmps103 nB rfl fun X w0 => ?_
 refine AW.region ?_
 refine Y1 (Yv.loadBox rfl ag_87 (i := i0) (appS (l := F) h0) eV rfl) ?_
 refine cE ce_34 F (BdE p bd A c) rfl rfl rfl (cRetC p N bd A c ok (by omega) 1) ?_
 rintro t2 S2 ⟨d1, bd1, A1, c1, e1, ok1, rfl, rfl⟩
 refine nl ?_
 refine retN .nil ?_
 exact ⟨rfl, _, _, _, e1, ok1, rfl⟩

def mMark12 (v1 v2 : Int) : BM Unit :=
 bnd (mOpC (10) (v2) (32)) fun d1 =>
 bnd (mSave (v1) (0) (d1)) fun _ =>
 bnd (mCell (320)) fun d3 =>
 bnd (mSave (d3) (0) (v1)) fun _ =>
 bnd (mAddC (d3) (8)) fun d5 =>
 mSetCell (320) (d5)
set_option maxHeartbeats 4000000 in
theorem cMark12 (p N : Nat) (bd : Bd) (A : Option Addr) (c : Nat) (ok : BdOk N bd) (hN : N ≤ 90000) (F : St) (i0 g0 : Nat) (h0 : F[i0]? = some (p87 g0 p)) (i1 g1 : Nat) (v1 : Int) (h1 : F[i1]? = some (Ent.box g1 3 [zi v1])) (i2 g2 : Nat) (v2 : Int) (h2 : F[i2]? = some (Ent.box g2 3 [zi v2])) :
    ACalls Tryz.prog 104 [pv g0, pv g1, pv g2] (F ++ BdE p bd A c) (BRF (mMark12 v1 v2) bd p (N + 17) F) := by
 refine ACalls.intro Tryz.func104 rfl Tryz.ntmps104 nB rfl fun X w0 => ?_
 refine AW.rseqH (HeldCs [(g0, 0, Value.pointer (some ⟨p, 0, none⟩)), (g1, 0, Value.int .i64 (v1)), (g2, 0, Value.int .i64 (v2))]) rfl (tells_cs (tcB i0 (appS (l := F) h0) rfl pinV (tcB i1 (appS (l := F) h1) rfl pinV (tcB i2 (appS (l := F) h2) rfl pinV (tc0))))) ?_
 refine T2 (i := 0) rfl (heldB 0 rfl ag_87 (E rfl rfl) rfl (fun _ _ => .v _)) ?_
 refine T2 (i := 1) rfl (heldB 1 rfl ag_3 (E rfl rfl) rfl (fun _ _ => .v _)) ?_
 refine T2 (i := 2) rfl (heldB 0 rfl ag_87 (E rfl rfl) rfl (fun _ _ => .v _)) ?_
 refine AWH.one (i := 3) (by kernel_rfl) rfl ?_
 refine Y1 (Yv.loadBox rfl ag_3 (i := i2) (appS (l := F) h2) eV rfl) ?_
 refine AWL.nil (kpH (tcB i0 (appS (l := F) h0) rfl pinV (tcB i1 (appS (l := F) h1) rfl pinV (tcB i2 (appS (l := F) h2) rfl pinV (tc0)))) ?_)
 refine AWH.one (i := 4) (by kernel_rfl) rfl ?_
 refine cE ce_78 F (BdE p bd A c) rfl rfl rfl (cOpC p N bd A c ok (by omega) 10 v2 32) ?_
 rintro t8 S8 ⟨d1, bd1, A1, c1, e1, ok1, rfl, rfl⟩
 refine AWL.nil (kpH (tcB i0 (appS (l := F) h0) rfl pinV (tcB i1 (appS (l := F) h1) rfl pinV (tcB i2 (appS (l := F) h2) rfl pinV (tc0)))) ?_)
 refine AWH.one (i := 5) (by kernel_rfl) rfl ?_
 refine cE ce_92 F (BdE p bd1 A1 c1) rfl rfl rfl (cSave p (N + 4) bd1 A1 c1 ok1 (by omega) v1 0 d1) ?_
 rintro t9 S9 ⟨d2, bd2, A2, c2, e2, ok2, rfl, rfl⟩
 refine AWL.nil (kpH (tcB i0 (appS (l := F) h0) rfl pinV (tcB i1 (appS (l := F) h1) rfl pinV (tcB i2 (appS (l := F) h2) rfl pinV (tc0)))) ?_)
 refine AWH.done (by kernel_rfl) ?_
 refine rs (Y1 (Yv.loadBox rfl ag_87 (i := i0) (appS (l := F) h0) eV rfl) ?_)
 refine cE ce_87 F (BdE p bd2 A2 c2) rfl rfl rfl (cCell p (N + 5) bd2 A2 c2 ok2 (by omega) 320) ?_
 rintro t11 S11 ⟨d3, bd3, A3, c3, e3, ok3, rfl, rfl⟩
 refine ya ?_
 refine rs (Y1 (Yv.loadBox rfl ag_87 (i := i0) (appS (l := F) h0) eV rfl) ?_)
 refine ym ?_
 refine Y1 (Yv.loadBox rfl ag_3 (i := i1) (appS (l := F) h1) eV rfl) ?_
 refine cE ce_92 F (BdE p bd3 A3 c3) rfl rfl rfl (cSave p (N + 9) bd3 A3 c3 ok3 (by omega) d3 0 v1) ?_
 rintro t15 S15 ⟨d4, bd4, A4, c4, e4, ok4, rfl, rfl⟩
 refine nl ?_
 refine AW.regionH (HeldCs [(g0, 0, Value.pointer (some ⟨p, 0, none⟩)), (g1, 0, Value.int .i64 (v1)), (g2, 0, Value.int .i64 (v2))]) rfl (tells_cs (tcB i0 (appS (l := F) h0) rfl pinV (tcB i1 (appS (l := F) h1) rfl pinV (tcB i2 (appS (l := F) h2) rfl pinV (tc0))))) ?_
 refine T2 (i := 0) rfl (heldB 0 rfl ag_87 (E rfl rfl) rfl (fun _ _ => .v _)) ?_
 refine T2 (i := 1) rfl (heldB 0 rfl ag_87 (E rfl rfl) rfl (fun _ _ => .v _)) ?_
 refine AWH.one (i := 2) (by kernel_rfl) rfl ?_
 refine ym ?_
 refine AWL.nil (kpH (tcB i0 (appS (l := F) h0) rfl pinV (tcB i1 (appS (l := F) h1) rfl pinV (tcB i2 (appS (l := F) h2) rfl pinV (tc0)))) ?_)
 refine AWH.one (i := 3) (by kernel_rfl) rfl ?_
 refine cE ce_93 F (BdE p bd4 A4 c4) rfl rfl rfl (cAddC p (N + 10) bd4 A4 c4 ok4 (by omega) d3 8) ?_
 rintro t19 S19 ⟨d5, bd5, A5, c5, e5, ok5, rfl, rfl⟩
 refine AWL.nil (kpH (tcB i0 (appS (l := F) h0) rfl pinV (tcB i1 (appS (l := F) h1) rfl pinV (tcB i2 (appS (l := F) h2) rfl pinV (tc0)))) ?_)
 refine AWH.one (i := 4) (by kernel_rfl) rfl ?_
 refine cE ce_76 F (BdE p bd5 A5 c5) rfl rfl rfl (cSetCell p (N + 14) bd5 A5 c5 ok5 (by omega) 320 d5) ?_
 rintro t20 S20 ⟨d6, bd6, A6, c6, e6, ok6, rfl, rfl⟩
 refine AWL.nil (kpH (tcB i0 (appS (l := F) h0) rfl pinV (tcB i1 (appS (l := F) h1) rfl pinV (tcB i2 (appS (l := F) h2) rfl pinV (tc0)))) ?_)
 refine AWH.done (by kernel_rfl) ?_
 refine retN .nil ?_
 exact ⟨rfl, _, _, _, (bq e1).trans ((bq e2).trans ((bq e3).trans ((bq e4).trans ((bq e5).trans (e6))))), ok6, rfl⟩

def mMark1 (v1 : Int) : BM Unit :=
 bnd (mGet (v1) (0)) fun d1 =>
 bnd (mShr (d1) (24)) fun d2 =>
 bnd (mThenC (1) (d2) (0) (mMark11 )) fun _ =>
 bnd (mAnd (d1) (32)) fun d4 =>
 mThenC (1) (d4) (0) (mMark12 (v1) (d1))
set_option maxHeartbeats 4000000 in
theorem cMark1_ (p N : Nat) (bd : Bd) (A : Option Addr) (c : Nat) (ok : BdOk N bd) (hN : N ≤ 80000) (F : St) (i0 g0 : Nat) (h0 : F[i0]? = some (p87 g0 p)) (i1 g1 : Nat) (v1 : Int) (h1 : F[i1]? = some (Ent.box g1 3 [zi v1])) :
    ACalls Tryz.prog 101 [pv g0, pv g1] (F ++ BdE p bd A c) (fun t S => t = .tup [] ∧ ∃ b' A' c', mMark1 v1 bd = ((), b') ∧ BdOk (N + 40) b' ∧ (F ++ BdE p b' A' c').Sublist S) := by
 refine ACalls.intro Tryz.func101 rfl Tryz.ntmps101 nB rfl fun X w0 => ?_
 refine rs (Y1 (Yv.loadBox rfl ag_87 (i := i0) (appS (l := F) h0) eV rfl) ?_)
 refine Y1 (Yv.loadBox rfl ag_3 (i := i1) (appS (l := F) h1) eV rfl) ?_
 refine cE ce_99 F (BdE p bd A c) rfl rfl rfl (cGet p N bd A c ok (by omega) v1 0) ?_
 rintro t5 S5 ⟨d1, bd1, A1, c1, e1, ok1, rfl, rfl⟩
 refine AWL.allocOp rfl rfl (B rfl) rfl zc_3 (fun b2 => ?_)
 refine AWL.perm (List.perm_append_singleton _ _).symm ?_
 refine AWL.storeBox (i := 0) rfl rfl rfl ag_3 rfl (E rfl rfl) (E rfl rfl) rfl rfl nB (nl ?_)
 refine AW.rseqH (HeldCs [(b2, 0, Value.int .i64 (d1)), (g0, 0, Value.pointer (some ⟨p, 0, none⟩)), (g1, 0, Value.int .i64 (v1))]) rfl (tells_cs (tcB 0 rfl rfl pinV (tcB (i0 + 1) (appS (l := F) h0) rfl pinV (tcB (i1 + 1) (appS (l := F) h1) rfl pinV (tc0))))) ?_
 refine T2 (i := 0) rfl (heldB 1 rfl ag_87 (E rfl rfl) rfl (fun _ _ => .v _)) ?_
 refine T2 (i := 1) rfl (heldB 1 rfl ag_87 (E rfl rfl) rfl (fun _ _ => .v _)) ?_
 refine T2 (i := 2) rfl (heldB 0 rfl ag_3 (E rfl rfl) rfl (fun _ _ => .v _)) ?_
 refine T2 (i := 4) rfl (heldAll (freeMk rfl evs0 rfl (evsC (E rfl rfl) evs0) rfl)) ?_
 refine AWH.one (i := 3) (by kernel_rfl) rfl ?_
 refine cE ce_74 (i3 b2 d1 :: F) (BdE p bd1 A1 c1) rfl rfl rfl (cShr p (N + 2) bd1 A1 c1 ok1 (by omega) d1 24) ?_
 rintro t9 S9 ⟨d2, bd2, A2, c2, e2, ok2, rfl, rfl⟩
 refine AWL.nil (kpH (tcB 0 rfl rfl pinV (tcB (i0 + 1) (appS (l := F) h0) rfl pinV (tcB (i1 + 1) (appS (l := F) h1) rfl pinV (tc0)))) ?_)
 refine AWH.one (i := 5) (by kernel_rfl) rfl ?_
 refine cA ce_102 rfl rfl rfl (cThenC p (N + 6) 3 bd2 A2 c2 ok2 (by omega) 1 d2 0 103 #[.pointer (some ⟨g0, 0, none⟩)] (i3 b2 d1 :: F) (mMark11 ) ce_103 (fun bd9 A9 c9 ok9 => cMark11 p _ bd9 A9 c9 ok9 (by omega) (i3 b2 d1 :: F) (i0 + 1) g0 h0)) ?_
 rintro t11 S11 ⟨rfl, bd3, A3, c3, e3, ok3, rfl⟩
 refine AWL.nil (kpH (tcB 0 rfl rfl pinV (tcB (i0 + 1) (appS (l := F) h0) rfl pinV (tcB (i1 + 1) (appS (l := F) h1) rfl pinV (tc0)))) ?_)
 refine AWH.done (by kernel_rfl) ?_
 refine AW.regionH (HeldCs [(b2, 0, Value.int .i64 (d1)), (g0, 0, Value.pointer (some ⟨p, 0, none⟩)), (g1, 0, Value.int .i64 (v1))]) rfl (tells_cs (tcB 0 rfl rfl pinV (tcB (i0 + 1) (appS (l := F) h0) rfl pinV (tcB (i1 + 1) (appS (l := F) h1) rfl pinV (tc0))))) ?_
 refine T2 (i := 0) rfl (heldB 1 rfl ag_87 (E rfl rfl) rfl (fun _ _ => .v _)) ?_
 refine T2 (i := 1) rfl (heldB 1 rfl ag_87 (E rfl rfl) rfl (fun _ _ => .v _)) ?_
 refine T2 (i := 2) rfl (heldB 0 rfl ag_3 (E rfl rfl) rfl (fun _ _ => .v _)) ?_
 refine T2 (i := 4) rfl (heldAll (freeMk rfl evs0 rfl (evsC (E rfl rfl) (evsC (E rfl rfl) (evsC (E rfl rfl) evs0))) rfl)) ?_
 refine AWH.one (i := 3) (by kernel_rfl) rfl ?_
 refine cE ce_100 (i3 b2 d1 :: F) (BdE p bd3 A3 c3) rfl rfl rfl (cAnd p (N + 14) bd3 A3 c3 ok3 (by omega) d1 32) ?_
 rintro t15 S15 ⟨d4, bd4, A4, c4, e4, ok4, rfl, rfl⟩
 refine AWL.nil (kpH (tcB 0 rfl rfl pinV (tcB (i0 + 1) (appS (l := F) h0) rfl pinV (tcB (i1 + 1) (appS (l := F) h1) rfl pinV (tc0)))) ?_)
 refine AWH.one (i := 5) (by kernel_rfl) rfl ?_
 refine cA ce_102 rfl rfl rfl (cThenC p (N + 18) 17 bd4 A4 c4 ok4 (by omega) 1 d4 0 104 #[.pointer (some ⟨g0, 0, none⟩), .pointer (some ⟨g1, 0, none⟩), .pointer (some ⟨b2, 0, none⟩)] (i3 b2 d1 :: F) (mMark12 v1 d1) ce_104 (fun bd9 A9 c9 ok9 => cMark12 p _ bd9 A9 c9 ok9 (by omega) (i3 b2 d1 :: F) (i0 + 1) g0 h0 (i1 + 1) g1 v1 h1 0 b2 d1 rfl)) ?_
 rintro t17 S17 ⟨rfl, bd5, A5, c5, e5, ok5, rfl⟩
 refine AWL.nil (kpH (tcB 0 rfl rfl pinV (tcB (i0 + 1) (appS (l := F) h0) rfl pinV (tcB (i1 + 1) (appS (l := F) h1) rfl pinV (tc0)))) ?_)
 refine AWH.done (by kernel_rfl) ?_
 refine retN .nil ?_
 exact ⟨rfl, _, _, _, (bq e1).trans ((bq e2).trans ((bq e3).trans ((bq e4).trans (e5)))), ok5, List.sublist_cons_self _ _⟩

theorem cMark1 (p N : Nat) (bd : Bd) (A : Option Addr) (c : Nat) (ok : BdOk N bd) (hN : N ≤ 80000) (F : St) (i0 g0 : Nat) (h0 : F[i0]? = some (p87 g0 p)) (i1 g1 : Nat) (v1 : Int) (h1 : F[i1]? = some (Ent.box g1 3 [zi v1])) : ACalls Tryz.prog 101 [pv g0, pv g1] (F ++ BdE p bd A c) (BRF (mMark1 v1) bd p (N + 40) F) := (cMark1_ p N bd A c ok hN F i0 g0 h0 i1 g1 v1 h1).less fun t S' h => by
    obtain ⟨rfl, b', A', c', h1, h2, h3⟩ := h
    exact ⟨_, h3, rfl, b', A', c', h1, h2, rfl⟩
def mCopied1 (v1 : Int) : BM Unit :=
 mRet (v1)
set_option maxHeartbeats 4000000 in
theorem cCopied1 (p N : Nat) (bd : Bd) (A : Option Addr) (c : Nat) (ok : BdOk N bd) (hN : N ≤ 90000) (F : St) (i0 g0 : Nat) (h0 : F[i0]? = some (p87 g0 p)) (i1 g1 : Nat) (v1 : Int) (h1 : F[i1]? = some (Ent.box g1 3 [zi v1])) :
    ACalls Tryz.prog 108 [pv g0, pv g1] (F ++ BdE p bd A c) (BRF (mCopied1 v1) bd p (N + 1) F) := by
 refine ACalls.intro Tryz.func108 rfl Tryz.ntmps108 nB rfl fun X w0 => ?_
 refine AW.region ?_
 refine Y1 (Yv.loadBox rfl ag_87 (i := i0) (appS (l := F) h0) eV rfl) ?_
 refine Y1 (Yv.loadBox rfl ag_3 (i := i1) (appS (l := F) h1) eV rfl) ?_
 refine cE ce_52 F (BdE p bd A c) rfl rfl rfl (cRet p N bd A c ok (by omega) v1) ?_
 rintro t4 S4 ⟨d1, bd1, A1, c1, e1, ok1, rfl, rfl⟩
 refine nl ?_
 refine retN .nil ?_
 exact ⟨rfl, _, _, _, e1, ok1, rfl⟩

def mCopied2 : BM Unit :=
 mTail ((1 + 5)) []
set_option maxHeartbeats 4000000 in
theorem cCopied2 (p N : Nat) (bd : Bd) (A : Option Addr) (c : Nat) (ok : BdOk N bd) (hN : N ≤ 90000) (F : St) (i0 g0 : Nat) (h0 : F[i0]? = some (p87 g0 p)) (i1 g1 : Nat) (h1 : F[i1]? = some (Ent.box g1 3 [zi 1])) :
    ACalls Tryz.prog 109 [pv g0, pv g1] (F ++ BdE p bd A c) (BRF (mCopied2 ) bd p (N + 1) F) := by
 refine ACalls.intro Tryz.func109 rfl Tryz.ntmps109 nB rfl fun X w0 => ?_
 refine AW.region ?_
 refine Y1 (Yv.loadBox rfl ag_87 (i := i0) (appS (l := F) h0) eV rfl) ?_
 refine Y1 (Yv.loadBox rfl ag_3 (i := i1) (appS (l := F) h1) eV rfl) ?_
 refine Y1 (Yv.addN_i64 rfl eV eV (fun hg => by omega)) ?_
 refine cE ce_91 F (BdE p bd A c) rfl rfl rfl ((cTail p N bd A c ok (by omega) ((1 + 5)) []).le (.cons .refl (.cons .refl (.cons nilSl (.refl))))) ?_
 rintro t5 S5 ⟨d1, bd1, A1, c1, e1, ok1, rfl, rfl⟩
 refine nl ?_
 refine retN .nil ?_
 exact ⟨rfl, _, _, _, e1, ok1, rfl⟩

def mCopied3 (v0 v1 : Int) : BM (Int × Int) :=
 rtn ((v0), (v1))
set_option maxHeartbeats 4000000 in
theorem cCopied3 (p N : Nat) (bd : Bd) (A : Option Addr) (c : Nat) (ok : BdOk N bd) (hN : N ≤ 90000) (F : St) (i0 g0 : Nat) (v0 : Int) (h0 : F[i0]? = some (Ent.box g0 3 [zi v0])) (i1 g1 : Nat) (v1 : Int) (h1 : F[i1]? = some (Ent.box g1 3 [zi v1])) :
    ACalls Tryz.prog 110 [pv g0, pv g1] (F ++ BdE p bd A c) (BR2 (mCopied3 v0 v1) bd p N F) := by
 refine ACalls.intro Tryz.func110 rfl Tryz.ntmps110 nB rfl fun X w0 => ?_
 refine rs (Y1 (Yv.assign rfl eV) ?_)
 refine ya ?_
 refine AW.rseqH (HeldCs [(g0, 0, Value.int .i64 (v0)), (g1, 0, Value.int .i64 (v1))]) rfl (tells_cs (tcB i0 (appS (l := F) h0) rfl pinV (tcB i1 (appS (l := F) h1) rfl pinV (tc0)))) ?_
 refine T2 (i := 0) rfl (heldB 0 rfl ag_3 (E rfl rfl) rfl (fun _ _ => .v _)) ?_
 refine T2 (i := 1) rfl (heldB 1 rfl ag_3 (E rfl rfl) rfl (fun _ _ => .v _)) ?_
 refine AWH.one (i := 2) (by kernel_rfl) rfl ?_
 refine Y1 (Yv.assign rfl eV) ?_
 refine AWL.nil (kpH (tcB i0 (appS (l := F) h0) rfl pinV (tcB i1 (appS (l := F) h1) rfl pinV (tc0))) ?_)
 refine AWH.one (i := 3) (by kernel_rfl) rfl ?_
 refine Y1 (Yv.assign rfl eV) ?_
 refine AWL.nil (kpH (tcB i0 (appS (l := F) h0) rfl pinV (tcB i1 (appS (l := F) h1) rfl pinV (tc0))) ?_)
 refine AWH.done (by kernel_rfl) ?_
 refine AW.ret (retI (.tmp rfl (.tmp rfl .nil)) ?_)
 exact ⟨_, _, _, _, _, rfl, rfl, ok, rfl⟩

def mCopied4 (v1 v2 v3 : Int) : BM Unit :=
 bnd (mAdd (v1) (v2)) fun d1 =>
 bnd (mAdd (v3) (v2)) fun d2 =>
 bnd (mGet (d2) (0)) fun d3 =>
 bnd (mSave (d1) (0) (d3)) fun _ =>
 mIncr (v2) (8)
set_option maxHeartbeats 4000000 in
theorem cCopied4 (p N : Nat) (bd : Bd) (A : Option Addr) (c : Nat) (ok : BdOk N bd) (hN : N ≤ 90000) (F : St) (i0 g0 : Nat) (h0 : F[i0]? = some (p87 g0 p)) (i1 g1 : Nat) (v1 : Int) (h1 : F[i1]? = some (Ent.box g1 3 [zi v1])) (i2 g2 : Nat) (v2 : Int) (h2 : F[i2]? = some (Ent.box g2 3 [zi v2])) (i3 g3 : Nat) (v3 : Int) (h3 : F[i3]? = some (Ent.box g3 3 [zi v3])) :
    ACalls Tryz.prog 111 [pv g0, pv g1, pv g2, pv g3] (F ++ BdE p bd A c) (BRF (mCopied4 v1 v2 v3) bd p (N + 10) F) := by
 refine ACalls.intro Tryz.func111 rfl Tryz.ntmps111 nB rfl fun X w0 => ?_
 refine AW.rseqH (HeldCs [(g0, 0, Value.pointer (some ⟨p, 0, none⟩)), (g1, 0, Value.int .i64 (v1)), (g2, 0, Value.int .i64 (v2)), (g3, 0, Value.int .i64 (v3))]) rfl (tells_cs (tcB i0 (appS (l := F) h0) rfl pinV (tcB i1 (appS (l := F) h1) rfl pinV (tcB i2 (appS (l := F) h2) rfl pinV (tcB i3 (appS (l := F) h3) rfl pinV (tc0)))))) ?_
 refine T2 (i := 0) rfl (heldB 0 rfl ag_87 (E rfl rfl) rfl (fun _ _ => .v _)) ?_
 refine T2 (i := 1) rfl (heldB 0 rfl ag_87 (E rfl rfl) rfl (fun _ _ => .v _)) ?_
 refine T2 (i := 2) rfl (heldB 1 rfl ag_3 (E rfl rfl) rfl (fun _ _ => .v _)) ?_
 refine T2 (i := 3) rfl (heldB 2 rfl ag_3 (E rfl rfl) rfl (fun _ _ => .v _)) ?_
 refine T2 (i := 5) rfl (heldB 0 rfl ag_87 (E rfl rfl) rfl (fun _ _ => .v _)) ?_
 refine T2 (i := 6) rfl (heldB 0 rfl ag_87 (E rfl rfl) rfl (fun _ _ => .v _)) ?_
 refine T2 (i := 7) rfl (heldB 3 rfl ag_3 (E rfl rfl) rfl (fun _ _ => .v _)) ?_
 refine T2 (i := 8) rfl (heldB 2 rfl ag_3 (E rfl rfl) rfl (fun _ _ => .v _)) ?_
 refine AWH.one (i := 4) (by kernel_rfl) rfl ?_
 refine cE ce_83 F (BdE p bd A c) rfl rfl rfl (cAdd p N bd A c ok (by omega) v1 v2) ?_
 rintro t8 S8 ⟨d1, bd1, A1, c1, e1, ok1, rfl, rfl⟩
 refine AWL.nil (kpH (tcB i0 (appS (l := F) h0) rfl pinV (tcB i1 (appS (l := F) h1) rfl pinV (tcB i2 (appS (l := F) h2) rfl pinV (tcB i3 (appS (l := F) h3) rfl pinV (tc0))))) ?_)
 refine AWH.one (i := 9) (by kernel_rfl) rfl ?_
 refine cE ce_83 F (BdE p bd1 A1 c1) rfl rfl rfl (cAdd p (N + 2) bd1 A1 c1 ok1 (by omega) v3 v2) ?_
 rintro t13 S13 ⟨d2, bd2, A2, c2, e2, ok2, rfl, rfl⟩
 refine AWL.nil (kpH (tcB i0 (appS (l := F) h0) rfl pinV (tcB i1 (appS (l := F) h1) rfl pinV (tcB i2 (appS (l := F) h2) rfl pinV (tcB i3 (appS (l := F) h3) rfl pinV (tc0))))) ?_)
 refine AWH.one (i := 10) (by kernel_rfl) rfl ?_
 refine cE ce_99 F (BdE p bd2 A2 c2) rfl rfl rfl (cGet p (N + 4) bd2 A2 c2 ok2 (by omega) d2 0) ?_
 rintro t14 S14 ⟨d3, bd3, A3, c3, e3, ok3, rfl, rfl⟩
 refine AWL.nil (kpH (tcB i0 (appS (l := F) h0) rfl pinV (tcB i1 (appS (l := F) h1) rfl pinV (tcB i2 (appS (l := F) h2) rfl pinV (tcB i3 (appS (l := F) h3) rfl pinV (tc0))))) ?_)
 refine AWH.one (i := 11) (by kernel_rfl) rfl ?_
 refine cE ce_92 F (BdE p bd3 A3 c3) rfl rfl rfl (cSave p (N + 6) bd3 A3 c3 ok3 (by omega) d1 0 d3) ?_
 rintro t15 S15 ⟨d4, bd4, A4, c4, e4, ok4, rfl, rfl⟩
 refine AWL.nil (kpH (tcB i0 (appS (l := F) h0) rfl pinV (tcB i1 (appS (l := F) h1) rfl pinV (tcB i2 (appS (l := F) h2) rfl pinV (tcB i3 (appS (l := F) h3) rfl pinV (tc0))))) ?_)
 refine AWH.done (by kernel_rfl) ?_
 refine AW.region ?_
 refine Y1 (Yv.loadBox rfl ag_87 (i := i0) (appS (l := F) h0) eV rfl) ?_
 refine Y1 (Yv.loadBox rfl ag_3 (i := i2) (appS (l := F) h2) eV rfl) ?_
 refine cE ce_79 F (BdE p bd4 A4 c4) rfl rfl rfl (cIncr p (N + 7) bd4 A4 c4 ok4 (by omega) v2 8) ?_
 rintro t18 S18 ⟨d5, bd5, A5, c5, e5, ok5, rfl, rfl⟩
 refine nl ?_
 refine retN .nil ?_
 exact ⟨rfl, _, _, _, (bq e1).trans ((bq e2).trans ((bq e3).trans ((bq e4).trans (e5)))), ok5, rfl⟩

def mForward1 (v1 : Int) : BM Unit :=
 mRet (v1)
set_option maxHeartbeats 4000000 in
theorem cForward1 (p N : Nat) (bd : Bd) (A : Option Addr) (c : Nat) (ok : BdOk N bd) (hN : N ≤ 90000) (F : St) (i0 g0 : Nat) (h0 : F[i0]? = some (p87 g0 p)) (i1 g1 : Nat) (v1 : Int) (h1 : F[i1]? = some (Ent.box g1 3 [zi v1])) :
    ACalls Tryz.prog 112 [pv g0, pv g1] (F ++ BdE p bd A c) (BRF (mForward1 v1) bd p (N + 1) F) := by
 refine ACalls.intro Tryz.func112 rfl Tryz.ntmps112 nB rfl fun X w0 => ?_
 refine AW.region ?_
 refine Y1 (Yv.loadBox rfl ag_87 (i := i0) (appS (l := F) h0) eV rfl) ?_
 refine Y1 (Yv.loadBox rfl ag_3 (i := i1) (appS (l := F) h1) eV rfl) ?_
 refine cE ce_52 F (BdE p bd A c) rfl rfl rfl (cRet p N bd A c ok (by omega) v1) ?_
 rintro t4 S4 ⟨d1, bd1, A1, c1, e1, ok1, rfl, rfl⟩
 refine nl ?_
 refine retN .nil ?_
 exact ⟨rfl, _, _, _, e1, ok1, rfl⟩

def mForward2 (v2 : Int) : BM Unit :=
 mTail ((1 + 7)) [v2]
set_option maxHeartbeats 4000000 in
theorem cForward2 (p N : Nat) (bd : Bd) (A : Option Addr) (c : Nat) (ok : BdOk N bd) (hN : N ≤ 90000) (F : St) (i0 g0 : Nat) (h0 : F[i0]? = some (p87 g0 p)) (i1 g1 : Nat) (h1 : F[i1]? = some (Ent.box g1 3 [zi 1])) (i2 g2 : Nat) (v2 : Int) (h2 : F[i2]? = some (Ent.box g2 3 [zi v2])) :
    ACalls Tryz.prog 113 [pv g0, pv g1, pv g2] (F ++ BdE p bd A c) (BRF (mForward2 v2) bd p (N + 1) F) := by
 refine ACalls.intro Tryz.func113 rfl Tryz.ntmps113 nB rfl fun X w0 => ?_
 refine AW.region ?_
 refine Y1 (Yv.loadBox rfl ag_87 (i := i0) (appS (l := F) h0) eV rfl) ?_
 refine Y1 (Yv.loadBox rfl ag_3 (i := i1) (appS (l := F) h1) eV rfl) ?_
 refine Y1 (Yv.addN_i64 rfl eV eV (fun hg => by omega)) ?_
 refine Y1 (Yv.loadBox rfl ag_3 (i := i2) (appS (l := F) h2) eV rfl) ?_
 refine AWL.buildSlice1 rfl rfl (B rfl) rfl el_35 rfl (evsC (E rfl rfl) evs0) nB rfl rfl ?_
 refine cE ce_91 F (BdE p bd A c) rfl rfl rfl (cTail p N bd A c ok (by omega) ((1 + 7)) [v2]) ?_
 rintro t8 S8 ⟨d1, bd1, A1, c1, e1, ok1, rfl, rfl⟩
 refine nl ?_
 refine retN .nil ?_
 exact ⟨rfl, _, _, _, e1, ok1, rfl⟩

def mForward3 (v2 : Int) : BM Unit :=
 mTail ((1 + 7)) [v2]
set_option maxHeartbeats 4000000 in
theorem cForward3 (p N : Nat) (bd : Bd) (A : Option Addr) (c : Nat) (ok : BdOk N bd) (hN : N ≤ 90000) (F : St) (i0 g0 : Nat) (h0 : F[i0]? = some (p87 g0 p)) (i1 g1 : Nat) (h1 : F[i1]? = some (Ent.box g1 3 [zi 1])) (i2 g2 : Nat) (v2 : Int) (h2 : F[i2]? = some (Ent.box g2 3 [zi v2])) :
    ACalls Tryz.prog 114 [pv g0, pv g1, pv g2] (F ++ BdE p bd A c) (BRF (mForward3 v2) bd p (N + 1) F) := by
 refine ACalls.intro Tryz.func114 rfl Tryz.ntmps114 nB rfl fun X w0 => ?_
 refine AW.region ?_
 refine Y1 (Yv.loadBox rfl ag_87 (i := i0) (appS (l := F) h0) eV rfl) ?_
 refine Y1 (Yv.loadBox rfl ag_3 (i := i1) (appS (l := F) h1) eV rfl) ?_
 refine Y1 (Yv.addN_i64 rfl eV eV (fun hg => by omega)) ?_
 refine Y1 (Yv.loadBox rfl ag_3 (i := i2) (appS (l := F) h2) eV rfl) ?_
 refine AWL.buildSlice1 rfl rfl (B rfl) rfl el_35 rfl (evsC (E rfl rfl) evs0) nB rfl rfl ?_
 refine cE ce_91 F (BdE p bd A c) rfl rfl rfl (cTail p N bd A c ok (by omega) ((1 + 7)) [v2]) ?_
 rintro t8 S8 ⟨d1, bd1, A1, c1, e1, ok1, rfl, rfl⟩
 refine nl ?_
 refine retN .nil ?_
 exact ⟨rfl, _, _, _, e1, ok1, rfl⟩

def mScan1 (v0 v1 : Int) : BM (Int × Int) :=
 rtn ((v0), (v1))
set_option maxHeartbeats 4000000 in
theorem cScan1 (p N : Nat) (bd : Bd) (A : Option Addr) (c : Nat) (ok : BdOk N bd) (hN : N ≤ 90000) (F : St) (i0 g0 : Nat) (v0 : Int) (h0 : F[i0]? = some (Ent.box g0 3 [zi v0])) (i1 g1 : Nat) (v1 : Int) (h1 : F[i1]? = some (Ent.box g1 3 [zi v1])) :
    ACalls Tryz.prog 115 [pv g0, pv g1] (F ++ BdE p bd A c) (BR2 (mScan1 v0 v1) bd p N F) := by
 refine ACalls.intro Tryz.func115 rfl Tryz.ntmps115 nB rfl fun X w0 => ?_
 refine rs (Y1 (Yv.assign rfl eV) ?_)
 refine ya ?_
 refine AW.rseqH (HeldCs [(g0, 0, Value.int .i64 (v0)), (g1, 0, Value.int .i64 (v1))]) rfl (tells_cs (tcB i0 (appS (l := F) h0) rfl pinV (tcB i1 (appS (l := F) h1) rfl pinV (tc0)))) ?_
 refine T2 (i := 0) rfl (heldB 0 rfl ag_3 (E rfl rfl) rfl (fun _ _ => .v _)) ?_
 refine T2 (i := 1) rfl (heldB 1 rfl ag_3 (E rfl rfl) rfl (fun _ _ => .v _)) ?_
 refine AWH.one (i := 2) (by kernel_rfl) rfl ?_
 refine Y1 (Yv.assign rfl eV) ?_
 refine AWL.nil (kpH (tcB i0 (appS (l := F) h0) rfl pinV (tcB i1 (appS (l := F) h1) rfl pinV (tc0))) ?_)
 refine AWH.one (i := 3) (by kernel_rfl) rfl ?_
 refine Y1 (Yv.assign rfl eV) ?_
 refine AWL.nil (kpH (tcB i0 (appS (l := F) h0) rfl pinV (tcB i1 (appS (l := F) h1) rfl pinV (tc0))) ?_)
 refine AWH.done (by kernel_rfl) ?_
 refine AW.ret (retI (.tmp rfl (.tmp rfl .nil)) ?_)
 exact ⟨_, _, _, _, _, rfl, rfl, ok, rfl⟩

def mScan2 (v1 : Int) : BM Unit :=
 bnd (mGet (v1) (0)) fun d1 =>
 bnd (mCall ((1 + 8)) [d1]) fun d2 =>
 bnd (mSave (v1) (0) (d2)) fun _ =>
 mIncr (v1) (8)
set_option maxHeartbeats 4000000 in
theorem cScan2 (p N : Nat) (bd : Bd) (A : Option Addr) (c : Nat) (ok : BdOk N bd) (hN : N ≤ 90000) (F : St) (i0 g0 : Nat) (h0 : F[i0]? = some (p87 g0 p)) (i1 g1 : Nat) (v1 : Int) (h1 : F[i1]? = some (Ent.box g1 3 [zi v1])) (i2 g2 : Nat) (h2 : F[i2]? = some (Ent.box g2 3 [zi 1])) :
    ACalls Tryz.prog 116 [pv g0, pv g1, pv g2] (F ++ BdE p bd A c) (BRF (mScan2 v1) bd p (N + 8) F) := by
 refine ACalls.intro Tryz.func116 rfl Tryz.ntmps116 nB rfl fun X w0 => ?_
 refine AW.rseqH (HeldCs [(g0, 0, Value.pointer (some ⟨p, 0, none⟩)), (g1, 0, Value.int .i64 (v1)), (g2, 0, Value.int .i64 (1))]) rfl (tells_cs (tcB i0 (appS (l := F) h0) rfl pinV (tcB i1 (appS (l := F) h1) rfl pinV (tcB i2 (appS (l := F) h2) rfl pinV (tc0))))) ?_
 refine T2 (i := 0) rfl (heldB 0 rfl ag_87 (E rfl rfl) rfl (fun _ _ => .v _)) ?_
 refine T2 (i := 1) rfl (heldB 1 rfl ag_3 (E rfl rfl) rfl (fun _ _ => .v _)) ?_
 refine T2 (i := 2) rfl (heldB 0 rfl ag_87 (E rfl rfl) rfl (fun _ _ => .v _)) ?_
 refine T2 (i := 3) rfl (heldB 2 rfl ag_3 (E rfl rfl) rfl (fun _ _ => .v _)) ?_
 refine T2 (i := 4) rfl (heldAll (freeAddI rfl (E rfl rfl) (E rfl rfl) (by first | decide | omega))) ?_
 refine T2 (i := 5) rfl (heldB 0 rfl ag_87 (E rfl rfl) rfl (fun _ _ => .v _)) ?_
 refine AWH.one (i := 6) (by kernel_rfl) rfl ?_
 refine Y1 (Yv.loadBox rfl ag_3 (i := i1) (appS (l := F) h1) eV rfl) ?_
 refine AWL.nil (kpH (tcB i0 (appS (l := F) h0) rfl pinV (tcB i1 (appS (l := F) h1) rfl pinV (tcB i2 (appS (l := F) h2) rfl pinV (tc0)))) ?_)
 refine AWH.one (i := 7) (by kernel_rfl) rfl ?_
 refine cE ce_99 F (BdE p bd A c) rfl rfl rfl (cGet p N bd A c ok (by omega) v1 0) ?_
 rintro t10 S10 ⟨d1, bd1, A1, c1, e1, ok1, rfl, rfl⟩
 refine AWL.nil (kpH (tcB i0 (appS (l := F) h0) rfl pinV (tcB i1 (appS (l := F) h1) rfl pinV (tcB i2 (appS (l := F) h2) rfl pinV (tc0)))) ?_)
 refine AWH.one (i := 8) (by kernel_rfl) rfl ?_
 refine AWL.buildSlice1 rfl rfl (B rfl) rfl el_35 rfl (evsC (E rfl rfl) evs0) nB rfl rfl ?_
 refine AWL.nil (kpH (tcB i0 (appS (l := F) h0) rfl pinV (tcB i1 (appS (l := F) h1) rfl pinV (tcB i2 (appS (l := F) h2) rfl pinV (tc0)))) ?_)
 refine AWH.one (i := 9) (by kernel_rfl) rfl ?_
 refine cE ce_33 F (BdE p bd1 A1 c1) rfl rfl rfl (cCall p (N + 2) bd1 A1 c1 ok1 (by omega) ((1 + 8)) [d1]) ?_
 rintro t12 S12 ⟨d2, bd2, A2, c2, e2, ok2, rfl, rfl⟩
 refine AWL.nil (kpH (tcB i0 (appS (l := F) h0) rfl pinV (tcB i1 (appS (l := F) h1) rfl pinV (tcB i2 (appS (l := F) h2) rfl pinV (tc0)))) ?_)
 refine AWH.one (i := 10) (by kernel_rfl) rfl ?_
 refine cE ce_92 F (BdE p bd2 A2 c2) rfl rfl rfl (cSave p (N + 4) bd2 A2 c2 ok2 (by omega) v1 0 d2) ?_
 rintro t13 S13 ⟨d3, bd3, A3, c3, e3, ok3, rfl, rfl⟩
 refine AWL.nil (kpH (tcB i0 (appS (l := F) h0) rfl pinV (tcB i1 (appS (l := F) h1) rfl pinV (tcB i2 (appS (l := F) h2) rfl pinV (tc0)))) ?_)
 refine AWH.done (by kernel_rfl) ?_
 refine AW.region ?_
 refine Y1 (Yv.loadBox rfl ag_87 (i := i0) (appS (l := F) h0) eV rfl) ?_
 refine Y1 (Yv.loadBox rfl ag_3 (i := i1) (appS (l := F) h1) eV rfl) ?_
 refine cE ce_79 F (BdE p bd3 A3 c3) rfl rfl rfl (cIncr p (N + 5) bd3 A3 c3 ok3 (by omega) v1 8) ?_
 rintro t16 S16 ⟨d4, bd4, A4, c4, e4, ok4, rfl, rfl⟩
 refine nl ?_
 refine retN .nil ?_
 exact ⟨rfl, _, _, _, (bq e1).trans ((bq e2).trans ((bq e3).trans (e4))), ok4, rfl⟩

def mCollect1 (v0 : Int) : BM (Int × Int) :=
 bnd (mCell (0)) fun d1 =>
 rtn ((v0), (d1))
set_option maxHeartbeats 4000000 in
theorem cCollect1 (p N : Nat) (bd : Bd) (A : Option Addr) (c : Nat) (ok : BdOk N bd) (hN : N ≤ 90000) (F : St) (i0 g0 : Nat) (v0 : Int) (h0 : F[i0]? = some (Ent.box g0 3 [zi v0])) (i1 g1 : Nat) (h1 : F[i1]? = some (p87 g1 p)) :
    ACalls Tryz.prog 118 [pv g0, pv g1] (F ++ BdE p bd A c) (BR2 (mCollect1 v0) bd p (N + 4) F) := by
 refine ACalls.intro Tryz.func118 rfl Tryz.ntmps118 nB rfl fun X w0 => ?_
 refine rs (Y1 (Yv.assign rfl eV) ?_)
 refine ya ?_
 refine AW.rseqH (HeldCs [(g0, 0, Value.int .i64 (v0)), (g1, 0, Value.pointer (some ⟨p, 0, none⟩))]) rfl (tells_cs (tcB i0 (appS (l := F) h0) rfl pinV (tcB i1 (appS (l := F) h1) rfl pinV (tc0)))) ?_
 refine T2 (i := 0) rfl (heldB 0 rfl ag_3 (E rfl rfl) rfl (fun _ _ => .v _)) ?_
 refine AWH.one (i := 1) (by kernel_rfl) rfl ?_
 refine Y1 (Yv.loadBox rfl ag_87 (i := i1) (appS (l := F) h1) eV rfl) ?_
 refine AWL.nil (kpH (tcB i0 (appS (l := F) h0) rfl pinV (tcB i1 (appS (l := F) h1) rfl pinV (tc0))) ?_)
 refine AWH.one (i := 2) (by kernel_rfl) rfl ?_
 refine cE ce_87 F (BdE p bd A c) rfl rfl rfl (cCell p N bd A c ok (by omega) 0) ?_
 rintro t6 S6 ⟨d1, bd1, A1, c1, e1, ok1, rfl, rfl⟩
 refine AWL.nil (kpH (tcB i0 (appS (l := F) h0) rfl pinV (tcB i1 (appS (l := F) h1) rfl pinV (tc0))) ?_)
 refine AWH.one (i := 3) (by kernel_rfl) rfl ?_
 refine Y1 (Yv.assign rfl eV) ?_
 refine AWL.nil (kpH (tcB i0 (appS (l := F) h0) rfl pinV (tcB i1 (appS (l := F) h1) rfl pinV (tc0))) ?_)
 refine AWH.one (i := 4) (by kernel_rfl) rfl ?_
 refine Y1 (Yv.assign rfl eV) ?_
 refine AWL.nil (kpH (tcB i0 (appS (l := F) h0) rfl pinV (tcB i1 (appS (l := F) h1) rfl pinV (tc0))) ?_)
 refine AWH.done (by kernel_rfl) ?_
 refine AW.ret (retI (.tmp rfl (.tmp rfl .nil)) ?_)
 exact ⟨_, _, _, _, _, rfl, (bq e1), ok1, rfl⟩

def mCollect2 (v1 : Int) : BM Unit :=
 bnd (mGet (v1) (0)) fun d1 =>
 bnd (mCall ((1 + 8)) [d1]) fun d2 =>
 bnd (mSave (v1) (0) (d2)) fun _ =>
 mIncr (v1) (8)
set_option maxHeartbeats 4000000 in
theorem cCollect2 (p N : Nat) (bd : Bd) (A : Option Addr) (c : Nat) (ok : BdOk N bd) (hN : N ≤ 90000) (F : St) (i0 g0 : Nat) (h0 : F[i0]? = some (p87 g0 p)) (i1 g1 : Nat) (v1 : Int) (h1 : F[i1]? = some (Ent.box g1 3 [zi v1])) (i2 g2 : Nat) (h2 : F[i2]? = some (Ent.box g2 3 [zi 1])) :
    ACalls Tryz.prog 119 [pv g0, pv g1, pv g2] (F ++ BdE p bd A c) (BRF (mCollect2 v1) bd p (N + 8) F) := by
 refine ACalls.intro Tryz.func119 rfl Tryz.ntmps119 nB rfl fun X w0 => ?_
 refine AW.rseqH (HeldCs [(g0, 0, Value.pointer (some ⟨p, 0, none⟩)), (g1, 0, Value.int .i64 (v1)), (g2, 0, Value.int .i64 (1))]) rfl (tells_cs (tcB i0 (appS (l := F) h0) rfl pinV (tcB i1 (appS (l := F) h1) rfl pinV (tcB i2 (appS (l := F) h2) rfl pinV (tc0))))) ?_
 refine T2 (i := 0) rfl (heldB 0 rfl ag_87 (E rfl rfl) rfl (fun _ _ => .v _)) ?_
 refine T2 (i := 1) rfl (heldB 1 rfl ag_3 (E rfl rfl) rfl (fun _ _ => .v _)) ?_
 refine T2 (i := 2) rfl (heldB 0 rfl ag_87 (E rfl rfl) rfl (fun _ _ => .v _)) ?_
 refine T2 (i := 3) rfl (heldB 2 rfl ag_3 (E rfl rfl) rfl (fun _ _ => .v _)) ?_
 refine T2 (i := 4) rfl (heldAll (freeAddI rfl (E rfl rfl) (E rfl rfl) (by first | decide | omega))) ?_
 refine T2 (i := 5) rfl (heldB 0 rfl ag_87 (E rfl rfl) rfl (fun _ _ => .v _)) ?_
 refine AWH.one (i := 6) (by kernel_rfl) rfl ?_
 refine Y1 (Yv.loadBox rfl ag_3 (i := i1) (appS (l := F) h1) eV rfl) ?_
 refine AWL.nil (kpH (tcB i0 (appS (l := F) h0) rfl pinV (tcB i1 (appS (l := F) h1) rfl pinV (tcB i2 (appS (l := F) h2) rfl pinV (tc0)))) ?_)
 refine AWH.one (i := 7) (by kernel_rfl) rfl ?_
 refine cE ce_99 F (BdE p bd A c) rfl rfl rfl (cGet p N bd A c ok (by omega) v1 0) ?_
 rintro t10 S10 ⟨d1, bd1, A1, c1, e1, ok1, rfl, rfl⟩
 refine AWL.nil (kpH (tcB i0 (appS (l := F) h0) rfl pinV (tcB i1 (appS (l := F) h1) rfl pinV (tcB i2 (appS (l := F) h2) rfl pinV (tc0)))) ?_)
 refine AWH.one (i := 8) (by kernel_rfl) rfl ?_
 refine AWL.buildSlice1 rfl rfl (B rfl) rfl el_35 rfl (evsC (E rfl rfl) evs0) nB rfl rfl ?_
 refine AWL.nil (kpH (tcB i0 (appS (l := F) h0) rfl pinV (tcB i1 (appS (l := F) h1) rfl pinV (tcB i2 (appS (l := F) h2) rfl pinV (tc0)))) ?_)
 refine AWH.one (i := 9) (by kernel_rfl) rfl ?_
 refine cE ce_33 F (BdE p bd1 A1 c1) rfl rfl rfl (cCall p (N + 2) bd1 A1 c1 ok1 (by omega) ((1 + 8)) [d1]) ?_
 rintro t12 S12 ⟨d2, bd2, A2, c2, e2, ok2, rfl, rfl⟩
 refine AWL.nil (kpH (tcB i0 (appS (l := F) h0) rfl pinV (tcB i1 (appS (l := F) h1) rfl pinV (tcB i2 (appS (l := F) h2) rfl pinV (tc0)))) ?_)
 refine AWH.one (i := 10) (by kernel_rfl) rfl ?_
 refine cE ce_92 F (BdE p bd2 A2 c2) rfl rfl rfl (cSave p (N + 4) bd2 A2 c2 ok2 (by omega) v1 0 d2) ?_
 rintro t13 S13 ⟨d3, bd3, A3, c3, e3, ok3, rfl, rfl⟩
 refine AWL.nil (kpH (tcB i0 (appS (l := F) h0) rfl pinV (tcB i1 (appS (l := F) h1) rfl pinV (tcB i2 (appS (l := F) h2) rfl pinV (tc0)))) ?_)
 refine AWH.done (by kernel_rfl) ?_
 refine AW.region ?_
 refine Y1 (Yv.loadBox rfl ag_87 (i := i0) (appS (l := F) h0) eV rfl) ?_
 refine Y1 (Yv.loadBox rfl ag_3 (i := i1) (appS (l := F) h1) eV rfl) ?_
 refine cE ce_79 F (BdE p bd3 A3 c3) rfl rfl rfl (cIncr p (N + 5) bd3 A3 c3 ok3 (by omega) v1 8) ?_
 rintro t16 S16 ⟨d4, bd4, A4, c4, e4, ok4, rfl, rfl⟩
 refine nl ?_
 refine retN .nil ?_
 exact ⟨rfl, _, _, _, (bq e1).trans ((bq e2).trans ((bq e3).trans (e4))), ok4, rfl⟩

def mCollect3 (v0 : Int) : BM (Int × Int) :=
 bnd (mCell (320)) fun d1 =>
 rtn ((v0), (d1))
set_option maxHeartbeats 4000000 in
theorem cCollect3 (p N : Nat) (bd : Bd) (A : Option Addr) (c : Nat) (ok : BdOk N bd) (hN : N ≤ 90000) (F : St) (i0 g0 : Nat) (v0 : Int) (h0 : F[i0]? = some (Ent.box g0 3 [zi v0])) (i1 g1 : Nat) (h1 : F[i1]? = some (p87 g1 p)) :
    ACalls Tryz.prog 120 [pv g0, pv g1] (F ++ BdE p bd A c) (BR2 (mCollect3 v0) bd p (N + 4) F) := by
 refine ACalls.intro Tryz.func120 rfl Tryz.ntmps120 nB rfl fun X w0 => ?_
 refine rs (Y1 (Yv.assign rfl eV) ?_)
 refine ya ?_
 refine AW.rseqH (HeldCs [(g0, 0, Value.int .i64 (v0)), (g1, 0, Value.pointer (some ⟨p, 0, none⟩))]) rfl (tells_cs (tcB i0 (appS (l := F) h0) rfl pinV (tcB i1 (appS (l := F) h1) rfl pinV (tc0)))) ?_
 refine T2 (i := 0) rfl (heldB 0 rfl ag_3 (E rfl rfl) rfl (fun _ _ => .v _)) ?_
 refine AWH.one (i := 1) (by kernel_rfl) rfl ?_
 refine Y1 (Yv.loadBox rfl ag_87 (i := i1) (appS (l := F) h1) eV rfl) ?_
 refine AWL.nil (kpH (tcB i0 (appS (l := F) h0) rfl pinV (tcB i1 (appS (l := F) h1) rfl pinV (tc0))) ?_)
 refine AWH.one (i := 2) (by kernel_rfl) rfl ?_
 refine cE ce_87 F (BdE p bd A c) rfl rfl rfl (cCell p N bd A c ok (by omega) 320) ?_
 rintro t6 S6 ⟨d1, bd1, A1, c1, e1, ok1, rfl, rfl⟩
 refine AWL.nil (kpH (tcB i0 (appS (l := F) h0) rfl pinV (tcB i1 (appS (l := F) h1) rfl pinV (tc0))) ?_)
 refine AWH.one (i := 3) (by kernel_rfl) rfl ?_
 refine Y1 (Yv.assign rfl eV) ?_
 refine AWL.nil (kpH (tcB i0 (appS (l := F) h0) rfl pinV (tcB i1 (appS (l := F) h1) rfl pinV (tc0))) ?_)
 refine AWH.one (i := 4) (by kernel_rfl) rfl ?_
 refine Y1 (Yv.assign rfl eV) ?_
 refine AWL.nil (kpH (tcB i0 (appS (l := F) h0) rfl pinV (tcB i1 (appS (l := F) h1) rfl pinV (tc0))) ?_)
 refine AWH.done (by kernel_rfl) ?_
 refine AW.ret (retI (.tmp rfl (.tmp rfl .nil)) ?_)
 exact ⟨_, _, _, _, _, rfl, (bq e1), ok1, rfl⟩

def mCollect4 (v1 : Int) : BM Unit :=
 bnd (mGet (v1) (0)) fun d1 =>
 bnd (mGet (d1) (0)) fun d2 =>
 bnd (mAnd (d2) ((-33))) fun d3 =>
 bnd (mSave (d1) (0) (d3)) fun _ =>
 bnd (mCall ((1 + 9)) [d1]) fun d5 =>
 mIncr (v1) (8)
set_option maxHeartbeats 4000000 in
theorem cCollect4 (p N : Nat) (bd : Bd) (A : Option Addr) (c : Nat) (ok : BdOk N bd) (hN : N ≤ 90000) (F : St) (i0 g0 : Nat) (h0 : F[i0]? = some (p87 g0 p)) (i1 g1 : Nat) (v1 : Int) (h1 : F[i1]? = some (Ent.box g1 3 [zi v1])) (i2 g2 : Nat) (h2 : F[i2]? = some (Ent.box g2 3 [zi 1])) :
    ACalls Tryz.prog 121 [pv g0, pv g1, pv g2] (F ++ BdE p bd A c) (BRF (mCollect4 v1) bd p (N + 14) F) := by
 refine ACalls.intro Tryz.func121 rfl Tryz.ntmps121 nB rfl fun X w0 => ?_
 refine rs (Y1 (Yv.loadBox rfl ag_87 (i := i0) (appS (l := F) h0) eV rfl) ?_)
 refine Y1 (Yv.loadBox rfl ag_3 (i := i1) (appS (l := F) h1) eV rfl) ?_
 refine cE ce_99 F (BdE p bd A c) rfl rfl rfl (cGet p N bd A c ok (by omega) v1 0) ?_
 rintro t6 S6 ⟨d1, bd1, A1, c1, e1, ok1, rfl, rfl⟩
 refine ya ?_
 refine AW.rseqH (HeldCs [(g0, 0, Value.pointer (some ⟨p, 0, none⟩)), (g1, 0, Value.int .i64 (v1)), (g2, 0, Value.int .i64 (1))]) rfl (tells_cs (tcB i0 (appS (l := F) h0) rfl pinV (tcB i1 (appS (l := F) h1) rfl pinV (tcB i2 (appS (l := F) h2) rfl pinV (tc0))))) ?_
 refine T2 (i := 0) rfl (heldB 0 rfl ag_87 (E rfl rfl) rfl (fun _ _ => .v _)) ?_
 refine T2 (i := 1) rfl (heldAll (freeMove rfl (E rfl rfl))) ?_
 refine T2 (i := 2) rfl (heldB 0 rfl ag_87 (E rfl rfl) rfl (fun _ _ => .v _)) ?_
 refine T2 (i := 3) rfl (heldB 0 rfl ag_87 (E rfl rfl) rfl (fun _ _ => .v _)) ?_
 refine AWH.one (i := 4) (by kernel_rfl) rfl ?_
 refine ym ?_
 refine AWL.nil (kpH (tcB i0 (appS (l := F) h0) rfl pinV (tcB i1 (appS (l := F) h1) rfl pinV (tcB i2 (appS (l := F) h2) rfl pinV (tc0)))) ?_)
 refine AWH.one (i := 5) (by kernel_rfl) rfl ?_
 refine cE ce_99 F (BdE p bd1 A1 c1) rfl rfl rfl (cGet p (N + 2) bd1 A1 c1 ok1 (by omega) d1 0) ?_
 rintro t12 S12 ⟨d2, bd2, A2, c2, e2, ok2, rfl, rfl⟩
 refine AWL.nil (kpH (tcB i0 (appS (l := F) h0) rfl pinV (tcB i1 (appS (l := F) h1) rfl pinV (tcB i2 (appS (l := F) h2) rfl pinV (tc0)))) ?_)
 refine AWH.one (i := 6) (by kernel_rfl) rfl ?_
 refine cE ce_100 F (BdE p bd2 A2 c2) rfl rfl rfl (cAnd p (N + 4) bd2 A2 c2 ok2 (by omega) d2 ((-33))) ?_
 rintro t13 S13 ⟨d3, bd3, A3, c3, e3, ok3, rfl, rfl⟩
 refine AWL.nil (kpH (tcB i0 (appS (l := F) h0) rfl pinV (tcB i1 (appS (l := F) h1) rfl pinV (tcB i2 (appS (l := F) h2) rfl pinV (tc0)))) ?_)
 refine AWH.one (i := 7) (by kernel_rfl) rfl ?_
 refine cE ce_92 F (BdE p bd3 A3 c3) rfl rfl rfl (cSave p (N + 8) bd3 A3 c3 ok3 (by omega) d1 0 d3) ?_
 rintro t14 S14 ⟨d4, bd4, A4, c4, e4, ok4, rfl, rfl⟩
 refine AWL.nil (kpH (tcB i0 (appS (l := F) h0) rfl pinV (tcB i1 (appS (l := F) h1) rfl pinV (tcB i2 (appS (l := F) h2) rfl pinV (tc0)))) ?_)
 refine AWH.done (by kernel_rfl) ?_
 refine rs (Y1 (Yv.loadBox rfl ag_87 (i := i0) (appS (l := F) h0) eV rfl) ?_)
 refine Y1 (Yv.loadBox rfl ag_3 (i := i2) (appS (l := F) h2) eV rfl) ?_
 refine Y1 (Yv.addN_i64 rfl eV eV (fun hg => by omega)) ?_
 refine ym ?_
 refine AWL.buildSlice1 rfl rfl (B rfl) rfl el_35 rfl (evsC (E rfl rfl) evs0) nB rfl rfl ?_
 refine cE ce_33 F (BdE p bd4 A4 c4) rfl rfl rfl (cCall p (N + 9) bd4 A4 c4 ok4 (by omega) ((1 + 9)) [d1]) ?_
 rintro t20 S20 ⟨d5, bd5, A5, c5, e5, ok5, rfl, rfl⟩
 refine nl ?_
 refine AW.region ?_
 refine Y1 (Yv.loadBox rfl ag_87 (i := i0) (appS (l := F) h0) eV rfl) ?_
 refine Y1 (Yv.loadBox rfl ag_3 (i := i1) (appS (l := F) h1) eV rfl) ?_
 refine cE ce_79 F (BdE p bd5 A5 c5) rfl rfl rfl (cIncr p (N + 11) bd5 A5 c5 ok5 (by omega) v1 8) ?_
 rintro t23 S23 ⟨d6, bd6, A6, c6, e6, ok6, rfl, rfl⟩
 refine nl ?_
 refine retN .nil ?_
 exact ⟨rfl, _, _, _, (bq e1).trans ((bq e2).trans ((bq e3).trans ((bq e4).trans ((bq e5).trans (e6))))), ok6, rfl⟩

def mCollect5 (v0 : Int) : BM (Int × Int) :=
 bnd (mCell (328)) fun d1 =>
 rtn ((v0), (d1))
set_option maxHeartbeats 4000000 in
theorem cCollect5 (p N : Nat) (bd : Bd) (A : Option Addr) (c : Nat) (ok : BdOk N bd) (hN : N ≤ 90000) (F : St) (i0 g0 : Nat) (v0 : Int) (h0 : F[i0]? = some (Ent.box g0 3 [zi v0])) (i1 g1 : Nat) (h1 : F[i1]? = some (p87 g1 p)) :
    ACalls Tryz.prog 122 [pv g0, pv g1] (F ++ BdE p bd A c) (BR2 (mCollect5 v0) bd p (N + 4) F) := by
 refine ACalls.intro Tryz.func122 rfl Tryz.ntmps122 nB rfl fun X w0 => ?_
 refine rs (Y1 (Yv.assign rfl eV) ?_)
 refine ya ?_
 refine AW.rseqH (HeldCs [(g0, 0, Value.int .i64 (v0)), (g1, 0, Value.pointer (some ⟨p, 0, none⟩))]) rfl (tells_cs (tcB i0 (appS (l := F) h0) rfl pinV (tcB i1 (appS (l := F) h1) rfl pinV (tc0)))) ?_
 refine T2 (i := 0) rfl (heldB 0 rfl ag_3 (E rfl rfl) rfl (fun _ _ => .v _)) ?_
 refine AWH.one (i := 1) (by kernel_rfl) rfl ?_
 refine Y1 (Yv.loadBox rfl ag_87 (i := i1) (appS (l := F) h1) eV rfl) ?_
 refine AWL.nil (kpH (tcB i0 (appS (l := F) h0) rfl pinV (tcB i1 (appS (l := F) h1) rfl pinV (tc0))) ?_)
 refine AWH.one (i := 2) (by kernel_rfl) rfl ?_
 refine cE ce_87 F (BdE p bd A c) rfl rfl rfl (cCell p N bd A c ok (by omega) 328) ?_
 rintro t6 S6 ⟨d1, bd1, A1, c1, e1, ok1, rfl, rfl⟩
 refine AWL.nil (kpH (tcB i0 (appS (l := F) h0) rfl pinV (tcB i1 (appS (l := F) h1) rfl pinV (tc0))) ?_)
 refine AWH.one (i := 3) (by kernel_rfl) rfl ?_
 refine Y1 (Yv.assign rfl eV) ?_
 refine AWL.nil (kpH (tcB i0 (appS (l := F) h0) rfl pinV (tcB i1 (appS (l := F) h1) rfl pinV (tc0))) ?_)
 refine AWH.one (i := 4) (by kernel_rfl) rfl ?_
 refine Y1 (Yv.assign rfl eV) ?_
 refine AWL.nil (kpH (tcB i0 (appS (l := F) h0) rfl pinV (tcB i1 (appS (l := F) h1) rfl pinV (tc0))) ?_)
 refine AWH.done (by kernel_rfl) ?_
 refine AW.ret (retI (.tmp rfl (.tmp rfl .nil)) ?_)
 exact ⟨_, _, _, _, _, rfl, (bq e1), ok1, rfl⟩

def mCollect6 (v1 : Int) : BM Unit :=
 bnd (mCall ((1 + 9)) [v1]) fun d1 =>
 mSet (v1) (d1)
set_option maxHeartbeats 4000000 in
theorem cCollect6 (p N : Nat) (bd : Bd) (A : Option Addr) (c : Nat) (ok : BdOk N bd) (hN : N ≤ 90000) (F : St) (i0 g0 : Nat) (h0 : F[i0]? = some (p87 g0 p)) (i1 g1 : Nat) (v1 : Int) (h1 : F[i1]? = some (Ent.box g1 3 [zi v1])) (i2 g2 : Nat) (h2 : F[i2]? = some (Ent.box g2 3 [zi 1])) :
    ACalls Tryz.prog 123 [pv g0, pv g1, pv g2] (F ++ BdE p bd A c) (BRF (mCollect6 v1) bd p (N + 3) F) := by
 refine ACalls.intro Tryz.func123 rfl Tryz.ntmps123 nB rfl fun X w0 => ?_
 refine AW.regionH (HeldCs [(g0, 0, Value.pointer (some ⟨p, 0, none⟩)), (g1, 0, Value.int .i64 (v1)), (g2, 0, Value.int .i64 (1))]) rfl (tells_cs (tcB i0 (appS (l := F) h0) rfl pinV (tcB i1 (appS (l := F) h1) rfl pinV (tcB i2 (appS (l := F) h2) rfl pinV (tc0))))) ?_
 refine T2 (i := 0) rfl (heldB 0 rfl ag_87 (E rfl rfl) rfl (fun _ _ => .v _)) ?_
 refine T2 (i := 1) rfl (heldB 1 rfl ag_3 (E rfl rfl) rfl (fun _ _ => .v _)) ?_
 refine T2 (i := 2) rfl (heldB 0 rfl ag_87 (E rfl rfl) rfl (fun _ _ => .v _)) ?_
 refine T2 (i := 3) rfl (heldB 2 rfl ag_3 (E rfl rfl) rfl (fun _ _ => .v _)) ?_
 refine T2 (i := 4) rfl (heldAll (freeAddI rfl (E rfl rfl) (E rfl rfl) (by first | decide | omega))) ?_
 refine AWH.one (i := 5) (by kernel_rfl) rfl ?_
 refine Y1 (Yv.loadBox rfl ag_3 (i := i1) (appS (l := F) h1) eV rfl) ?_
 refine AWL.nil (kpH (tcB i0 (appS (l := F) h0) rfl pinV (tcB i1 (appS (l := F) h1) rfl pinV (tcB i2 (appS (l := F) h2) rfl pinV (tc0)))) ?_)
 refine AWH.one (i := 6) (by kernel_rfl) rfl ?_
 refine AWL.buildSlice1 rfl rfl (B rfl) rfl el_35 rfl (evsC (E rfl rfl) evs0) nB rfl rfl ?_
 refine AWL.nil (kpH (tcB i0 (appS (l := F) h0) rfl pinV (tcB i1 (appS (l := F) h1) rfl pinV (tcB i2 (appS (l := F) h2) rfl pinV (tc0)))) ?_)
 refine AWH.one (i := 7) (by kernel_rfl) rfl ?_
 refine cE ce_33 F (BdE p bd A c) rfl rfl rfl (cCall p N bd A c ok (by omega) ((1 + 9)) [v1]) ?_
 rintro t10 S10 ⟨d1, bd1, A1, c1, e1, ok1, rfl, rfl⟩
 refine AWL.nil (kpH (tcB i0 (appS (l := F) h0) rfl pinV (tcB i1 (appS (l := F) h1) rfl pinV (tcB i2 (appS (l := F) h2) rfl pinV (tc0)))) ?_)
 refine AWH.one (i := 8) (by kernel_rfl) rfl ?_
 refine cE ce_124 F (BdE p bd1 A1 c1) rfl rfl rfl (cSet p (N + 2) bd1 A1 c1 ok1 (by omega) v1 d1) ?_
 rintro t11 S11 ⟨d2, bd2, A2, c2, e2, ok2, rfl, rfl⟩
 refine AWL.nil (kpH (tcB i0 (appS (l := F) h0) rfl pinV (tcB i1 (appS (l := F) h1) rfl pinV (tcB i2 (appS (l := F) h2) rfl pinV (tc0)))) ?_)
 refine AWH.done (by kernel_rfl) ?_
 refine retN .nil ?_
 exact ⟨rfl, _, _, _, (bq e1).trans (e2), ok2, rfl⟩

end Go.Proofs.YtpgbpdnmjeoeoaaGreat.B
