/-
  TEXTS JOINED: Gk9, GGm, Gk10, Aw14, GGo.
-/
import Derived.Test.YtpgbpdnmjeoeoaaGreatRows
import Derived.ProofKit
import Derived.OpenShut
import Derived.JoinedCond
import Derived.Carry
import Derived.Deep.Slices
import Derived.Test.YtpgbpdnmjeoeoaaGreatLe
set_option linter.unusedSimpArgs false
set_option linter.unusedVariables false
set_option linter.unusedSectionVars false
set_option linter.unnecessarySimpa false
namespace Go.Proofs.YtpgbpdnmjeoeoaaGreat.G
open Go Go.RowKit

section
variable {cx : Cx} {env : Env} {S : St} {o : Oper} {g : Bool} {x y : Operand}
theorem freeConvU {src dst : TypeId} {k : IntKind} {p : Int} {d : TypeDesc} (ho : o.op = .convert src dst x) (hs : cx.P.underlying src = some d) (hd : kindOf cx.P dst = some .u64) (hx : Ev env true x (.v (.int k p))) (hb : 0 ≤ p ∧ p ≤ 18446744073709551615) : ∀ a w, Sim cx env S a w → ∃ u, VRep w (cx.X ++ M S) (.v (.int .u64 p)) u ∧ ∀ w', (execOp a.eval o).run cx.P w' = .ok (.value u) w' :=
 fun a w hsim => ⟨_, .v _, fun w' => by
  simp only [execOp, ho, hx.val hsim rfl, convert, Sem.run_bind, run_underlying hs, run_underlying (kindOf_spec hd), Result.andThen_ok, Conv.intToInt, Sem.run_pure, IntWalk.u64_in _ hb]⟩
theorem freeMulU {ty yt : TypeId} {p q : Int} (ho : o.op = .binOp .mul ty x y yt) (hx : Ev env true x (.v (.int .u64 p))) (hy : Ev env true y (.v (.int .u64 q))) (hb : 0 ≤ p * q ∧ p * q ≤ 18446744073709551615) : ∀ a w, Sim cx env S a w → ∃ u, VRep w (cx.X ++ M S) (.v (.int .u64 (p * q))) u ∧ ∀ w', (execOp a.eval o).run cx.P w' = .ok (.value u) w' :=
 fun a w hs => ⟨_, .v _, fun w' => by rw [exec_binOp_int ho (hx.val hs rfl) (hy.val hs rfl)]; simp [binOp, Op.intArith, Sem.run_pure, IntWalk.u64_in _ hb]⟩
end
set_option maxHeartbeats 400000 in
theorem Rows45 (k : Int) :
    ACalls Tryz.prog 45 [zi k] [] (fun t S => t = bv (((decide (k = 2) || decide (k = 7)) || decide (k = 3)) || decide (k = 4))) := by
 refine ACalls.intro Tryz.func45 rfl Tryz.ntmps45 nB rfl fun X w0 => ?_
 refine ra ?_
 refine rs (ym ?_)
 refine Y1 (Yv.eql rfl eV eV) ?_
 refine ym ?_
 refine gF (Yv.move rfl eV) ?_
 refine gF (Yv.eql rfl (Eg rfl rfl id) eV) ?_
 refine Y1 (Yv.pickOr (t := .const (.bool true)) rfl eV (Eg rfl rfl id)) ?_
 refine ym ?_
 refine gF (Yv.move rfl eV) ?_
 refine gF (Yv.eql rfl (Eg rfl rfl id) eV) ?_
 refine Y1 (Yv.pickOr (t := .const (.bool true)) rfl eV (Eg rfl rfl id)) ?_
 refine ym ?_
 refine gF (Yv.move rfl eV) ?_
 refine gF (Yv.eql rfl (Eg rfl rfl id) eV) ?_
 refine Y1 (Yv.pickOr (t := .const (.bool true)) rfl eV (Eg rfl rfl id)) ?_
 refine ya ?_
 refine AW.ret (retI (.tmp rfl .nil) ?_)
 rfl

set_option maxHeartbeats 400000 in
theorem May23t (b : List UInt8) (hb : b.length ≤ 1048576) :
    ACalls Tryz.prog 23 [.agg [zi 2, zi 0, sv b, .v (.slice none 0 0)]] [] (fun t S => t = bv true) := by
 refine ACalls.intro Tryz.func23 rfl Tryz.ntmps23 nB rfl fun X w0 => ?_
 refine rs ?_
 refine AWL.boxOp rfl rfl (B rfl) rfl (E rfl rfl) rfl (fun b1 => ?_)
 refine ya ?_
 refine rs (yf fo_31_0 ?_)
 refine yl ag_3 0 ?_
 refine AWL.callP rfl rfl (B rfl) rfl ce_45 (E rfl rfl) (evsC (E rfl rfl) evs0) (Rows45 2) (fun t S h => h) ?_
 refine ya ?_
 refine AW.seq ?_
 refine rs (ym ?_)
 refine ym ?_
 refine gT (Yv.fieldBox rfl fo_31_3 eV) ?_
 refine gT (Yv.loadBox rfl ag_29 (i := 0) rfl (Eg rfl rfl id) rfl) ?_
 refine gT (Yv.lenV rfl so_29 (Eg rfl rfl id)) ?_
 refine gT (Yv.gtr rfl (Eg rfl rfl id) eV) ?_
 refine Y1 (Yv.pickAnd rfl eV (Eg rfl rfl id)) ?_
 refine ym ?_
 refine gF (Yv.move rfl eV) ?_
 refine gF (Yv.not rfl (Eg rfl rfl id)) ?_
 refine gF (Yv.move rfl (Eg rfl rfl id)) ?_
 refine gT (Yv.fieldBox rfl fo_31_2 eV) ?_
 refine gT (Yv.loadBox rfl ag_9 (i := 0) rfl (Eg rfl rfl id) rfl) ?_
 refine gT (Yv.lenL rfl st_9 (Eg rfl rfl id)) ?_
 refine gT (Yv.gtr rfl (Eg rfl rfl id) eV) ?_
 refine gF (Yv.pickAnd rfl (Eg rfl rfl id) (Eg rfl rfl id)) ?_
 refine Y1 (Yv.pickOr (t := .const (.bool true)) rfl eV (Eg rfl rfl id)) (nl ?_)
 refine AW.cond rfl (fun h0t => ?_) (fun h0f => ?_)
 ·try replace h0t := odt h0t
  first | exact absurd h0t (by decide) | exact absurd (show (false : Bool) = true from h0t) (by decide)
 try replace h0f := odf h0f
 refine AW.skip ?_
 refine AW.seq ?_
 refine rs (yf fo_31_0 ?_)
 refine yl ag_3 0 (nl ?_)
 refine AW.block ?_
 refine rs (Y1 (Yv.eql rfl eV eV) ?_)
 refine ya ?_
 refine AW.cond rfl (fun h1t => ?_) (fun h1f => ?_)
 ·try replace h1t := odt h1t
  first | exact absurd h1t (by decide) | exact absurd (show (false : Bool) = true from h1t) (by decide)
 try replace h1f := odf h1f
 refine rs (Y1 (Yv.eql rfl eV eV) ?_)
 refine ya ?_
 refine AW.cond rfl (fun h2t => ?_) (fun h2f => ?_)
 ·try replace h2t := odt h2t
  first | exact absurd h2t (by decide) | exact absurd (show (false : Bool) = true from h2t) (by decide)
 try replace h2f := odf h2f
 refine AW.seq ?_
 refine rs (Y1 (Yv.eql rfl eV eV) ?_)
 refine ya ?_
 refine AW.cond rfl (fun h3t => ?_) (fun h3f => ?_)
 ·try replace h3t := odt h3t
  refine AW.skip ?_
  refine AW.cond rfl (fun h4t => ?_) (fun h4f => ?_)
  ·try replace h4t := odt h4t
   refine rs (yf fo_31_1 ?_)
   refine yl ag_3 0 ?_
   refine Y1 (Yv.eql rfl eV eV) ?_
   refine ya ?_
   refine AW.ret (retI (.tmp rfl .nil) ?_)
   rfl
  try replace h4f := odf h4f
  first | exact absurd h4f (by decide) | exact absurd (show (true : Bool) = false from h4f) (by decide)
 try replace h3f := odf h3f
 first | exact absurd h3f (by decide) | exact absurd (show (true : Bool) = false from h3f) (by decide)

set_option maxHeartbeats 400000 in
theorem length24t (b : List UInt8) (hb : b.length ≤ 1048576) :
    ACalls Tryz.prog 24 [.agg [zi 2, zi 0, sv b, .v (.slice none 0 0)]] [] (fun t S => t = zi (b.length : Int)) := by
 refine ACalls.intro Tryz.func24 rfl Tryz.ntmps24 nB rfl fun X w0 => ?_
 refine rs ?_
 refine AWL.boxOp rfl rfl (B rfl) rfl (E rfl rfl) rfl (fun b1 => ?_)
 refine ya ?_
 refine rs (yf fo_31_0 ?_)
 refine yl ag_3 0 ?_
 refine AWL.callP rfl rfl (B rfl) rfl ce_45 (E rfl rfl) (evsC (E rfl rfl) evs0) (Rows45 2) (fun t S h => h) ?_
 refine ya ?_
 refine AW.seq ?_
 refine rs (ym (nl ?_))
 refine AW.cond rfl (fun h0t => ?_) (fun h0f => ?_)
 ·try replace h0t := odt h0t
  refine rs (yf fo_31_2 ?_)
  refine yl ag_9 0 ?_
  refine Y1 (Yv.lenL rfl st_9 eV) ?_
  refine ya ?_
  refine AW.ret (retI (.tmp rfl .nil) ?_)
  rfl
 try replace h0f := odf h0f
 first | exact absurd h0f (by decide) | exact absurd (show (true : Bool) = false from h0f) (by decide)

set_option maxHeartbeats 400000 in
theorem Header9t (b : List UInt8) (hb : b.length ≤ 1048576) :
    ACalls Tryz.prog 9 [.agg [zi 2, zi 0, sv b, .v (.slice none 0 0)]] [] (fun t S => t = .v (.int .u64 (5 + (b.length : Int) * 16777216))) := by
 refine ACalls.intro Tryz.func9 rfl Tryz.ntmps9 nB rfl fun X w0 => ?_
 refine rs ?_
 refine AWL.boxOp rfl rfl (B rfl) rfl (E rfl rfl) rfl (fun b1 => ?_)
 refine AWL.perm (List.perm_append_singleton _ _).symm ?_
 refine ya ?_
 refine rs (Y1 (Yv.loadBoxA rfl ag_31 (i := 0) rfl eV rfl rfl) ?_)
 refine AWL.callP rfl rfl (B rfl) rfl ce_23 (E rfl rfl) (evsC (E rfl rfl) evs0) (May23t b hb) (fun t S h => h) ?_
 refine ya ?_
 refine AW.seq ?_
 refine rs (ym ?_)
 refine Y1 (Yv.not rfl eV) (nl ?_)
 refine AW.cond rfl (fun h0t => ?_) (fun h0f => ?_)
 ·try replace h0t := odt h0t
  first | exact absurd h0t (by decide) | exact absurd (show (false : Bool) = true from h0t) (by decide)
 try replace h0f := odf h0f
 refine AW.skip ?_
 refine rs (yf fo_31_1 ?_)
 refine yl ag_3 0 ?_
 refine ya ?_
 refine AW.seq ?_
 refine rs (yf fo_31_0 ?_)
 refine yl ag_3 0 ?_
 refine Y1 (Yv.eql rfl eV eV) (nl ?_)
 refine AW.cond rfl (fun h1t => ?_) (fun h1f => ?_)
 ·try replace h1t := odt h1t
  first | exact absurd h1t (by decide) | exact absurd (show (false : Bool) = true from h1t) (by decide)
 try replace h1f := odf h1f
 refine AW.skip ?_
 refine AW.rseqH (HeldCs [(b1, 0, Value.int .i64 2)]) rfl (tells_cs (tcB 0 rfl rfl pinV tc0)) ?_
 refine T2 (i := 0) rfl (heldAll (freeField rfl fo_31_0 (E rfl rfl))) ?_
 refine T2 (i := 1) rfl (heldB 0 rfl ag_3 (E rfl rfl) rfl (fun _ _ => .v _)) ?_
 refine T2 (i := 2) rfl (heldAll (freeConvU rfl Tryz.underlying3 kd_22 (E rfl rfl) (by decide))) ?_
 refine T2 (i := 3) rfl (heldAll (freeMulU rfl (E rfl rfl) (E rfl rfl) (by decide))) ?_
 refine T2 (i := 4) rfl (heldAll (freeAdd_u64 rfl (E rfl rfl) (E rfl rfl) (by decide))) ?_
 refine T2 (i := 5) rfl (heldAll (freeMove rfl (E rfl rfl))) ?_
 refine T2 (i := 6) rfl (heldAll (freeConvU rfl Tryz.underlying3 kd_22 (E rfl rfl) (by decide))) ?_
 refine T2 (i := 7) rfl (heldAll (freeMulU rfl (E rfl rfl) (E rfl rfl) (by decide))) ?_
 refine T2 (i := 8) rfl (heldAll (freeAdd_u64 rfl (E rfl rfl) (E rfl rfl) (by decide))) ?_
 refine AWH.one (i := 9) (by kernel_rfl) rfl ?_
 refine Y1 (Yv.loadBoxA rfl ag_31 (i := 0) rfl eV rfl rfl) ?_
 refine AWL.nil (kpH (tcB 0 rfl rfl pinV tc0) ?_)
 refine AWH.one (i := 10) (by kernel_rfl) rfl ?_
 refine AWL.callP rfl rfl (B rfl) rfl ce_24 (E rfl rfl) (evsC (E rfl rfl) evs0) (length24t b hb) (fun t S h => h) ?_
 refine AWL.nil (kpH (tcB 0 rfl rfl pinV tc0) ?_)
 refine AWH.one (i := 11) (by kernel_rfl) rfl ?_
 refine Y1 (Yv.convN_u64 rfl Tryz.underlying3 kd_22 eV (fun hg => by omega)) ?_
 refine AWL.nil (kpH (tcB 0 rfl rfl pinV tc0) ?_)
 refine AWH.one (i := 12) (by kernel_rfl) rfl ?_
 refine Y1 (Yv.shlCN_u64 16777216 (by decide) (by decide) rfl (E rfl rfl) (E rfl rfl) (fun hg => by omega)) ?_
 refine AWL.nil (kpH (tcB 0 rfl rfl pinV tc0) ?_)
 refine AWH.one (i := 13) (by kernel_rfl) rfl ?_
 refine Y1 (Yv.addN_u64 rfl eV eV (fun hg => by omega)) ?_
 refine AWL.nil (kpH (tcB 0 rfl rfl pinV tc0) ?_)
 refine AWH.one (i := 14) (by kernel_rfl) rfl ?_
 refine Y1 (Yv.assign rfl eV) ?_
 refine AWL.nil (kpH (tcB 0 rfl rfl pinV tc0) ?_)
 refine AWH.done (by kernel_rfl) ?_
 refine AW.ret (retI (.tmp rfl .nil) ?_)
 rfl

end Go.Proofs.YtpgbpdnmjeoeoaaGreat.G

namespace Go.Proofs.YtpgbpdnmjeoeoaaGreat.G
open Go Go.RowKit B
set_option maxRecDepth 100000
def nmMinor : List UInt8 := [103, 99, 46, 109, 105, 110, 111, 114]
def nmMajor : List UInt8 := [103, 99, 46, 109, 97, 106, 111, 114]
section
variable {L : DLay} {m : Mc} {q : DQ} {y n u : Wd64} {c : Nat → Wd64} {B : Int}
theorem ls_live (hbs : L.bs.length = gcP.funs.length) (hL : Live y c B m q) (hy : 65536 ≤ y.toNat ∧ y.toNat < 105536) (hB : B ≤ 4000000000000000000) (hI : Idle y 0#64 c) (hn : n.toNat ≤ 8192) :
    ACalls Tryz.prog 13 [.v (.pointer (some ⟨L.s, 0, none⟩)), sv nmAlloc, .sl 1 ([n].map zw)] (DP L m q) (fun t S => ∃ m3 q3, t = .tup [zw (1073741824#64), bv true] ∧ Live y (updC c 33 (c 33 + n)) (B + 1000000) m3 q3 ∧ S = DP L m3 q3) := by
 have h := run_ret hL.prog hL.heap hL.strict hL.w hL.c (n := 2) (vs := [.wd n]) (of_decide_eq_true (by kernel_rfl)) (ls_some y n c) (ls_obs hy hI hn) (ls_at y n c)
 rw [ls_c, show (SV.wd (c 33)).val = 1073741824#64 from hI.nn] at h
 exact call_live hbs hL hy.2 hB nmAlloc [n] 2 15 _ (by rw [gc_len]; decide) (by kernel_rfl) (by kernel_rfl) (by kernel_rfl) (Nat.le_of_ble_eq_true rfl) (by decide) h
theorem mi_live (hbs : L.bs.length = gcP.funs.length) (hL : Live y c B m q) (hy : 65536 ≤ y.toNat ∧ y.toNat < 105536) (hB : B ≤ 4000000000000000000) (hI : Idle y u c) (hu : u.toNat ≤ 16384) :
    ACalls Tryz.prog 13 [.v (.pointer (some ⟨L.s, 0, none⟩)), sv nmMinor, .v (.slice none 0 0)] (DP L m q) (fun t S => ∃ m3 q3, t = .tup [zw 1#64, bv true] ∧ Live y (symS (miS y c)).c (B + 1000000) m3 q3 ∧ S = DP L m3 q3) := by
 have h := run_ret hL.prog hL.heap hL.strict hL.w hL.c (n := 3) (vs := []) (Nat.zero_le _) (mi_some y c) (mi_obs hy hI hu) (mi_at y c)
 exact (call_live hbs hL hy.2 hB nmMinor [] 3 156 _ (by rw [gc_len]; decide) (by kernel_rfl) (by kernel_rfl) (by kernel_rfl) (by decide) (by decide) h).le (.cons .refl (.cons .refl (.cons nilW .refl)))
theorem ma_live (hbs : L.bs.length = gcP.funs.length) (hL : Live y c B m q) (hy : 65536 ≤ y.toNat ∧ y.toNat < 105536) (hB : B ≤ 4000000000000000000) (hI : Idle y u c) :
    ACalls Tryz.prog 13 [.v (.pointer (some ⟨L.s, 0, none⟩)), sv nmMajor, .v (.slice none 0 0)] (DP L m q) (fun t S => ∃ m3 q3, t = .tup [zw 1#64, bv true] ∧ Live y (symS (maS y c)).c (B + 1000000) m3 q3 ∧ S = DP L m3 q3) := by
 have h := run_ret hL.prog hL.heap hL.strict hL.w hL.c (n := 4) (vs := []) (Nat.zero_le _) (ma_some y c) (ma_obs hI) (ma_at y c)
 exact (call_live hbs hL hy.2 hB nmMajor [] 4 171 _ (by rw [gc_len]; decide) (by kernel_rfl) (by kernel_rfl) (by kernel_rfl) (by decide) (by decide) h).le (.cons .refl (.cons .refl (.cons nilW .refl)))
theorem cell_store (hL : Live y c B m q) (x a : Wd64) (k : Nat) (hk : k < 50) (ha : a = 268435456#64 + wI ((8 * k : Nat) : Int)) :
    ACalls Tryz.prog 15 [.v (.pointer (some ⟨L.s, 0, none⟩)), zw a, zi 8, zw x] (DP L m q) (fun t S => ∃ q', t = bv true ∧ Live y (updC c k x) B (storeM m a x) q' ∧ S = DP L (storeM m a x) q') :=
 (DStoreP hL a x (by rw [ha]; exact th_cell gc_z (8 * k) (by omega) (by omega))).mono fun t S ⟨q', h1, h2, h3⟩ => ⟨q', h1, h2 _ (by rw [ha]; exact hL.c.put k hk x), h3⟩
theorem heap_store (hL : Live y c B m q) (hy : y.toNat < 105536) (x a : Wd64) (ha : 1073741824 ≤ a.toNat) (hb : a.toNat + 8 ≤ 1073741824 + y.toNat) :
    ACalls Tryz.prog 15 [.v (.pointer (some ⟨L.s, 0, none⟩)), zw a, zi 8, zw x] (DP L m q) (fun t S => ∃ q', t = bv true ∧ Live y c B (storeM m a x) q' ∧ S = DP L (storeM m a x) q') :=
 (DStoreP hL a x (th_heap ha hb)).mono fun t S ⟨q', h1, h2, h3⟩ => ⟨q', h1, h2 _ (Cells.far hL.c (by omega) (by have := a.isLt; have := y.isLt; omega)), h3⟩
theorem word_live (hL : Live y c B m q) {a : Wd64} (k : Nat) (hk : k < 50) (ha : a = 268435456#64 + wI ((8 * k : Nat) : Int)) : wordM m a = c k := by
 unfold wordM
 rw [hL.prog, ha, th_cell gc_z (8 * k) (by omega) (by omega)]
 exact (if_pos (show (sizeOk 8 && true) = true from rfl)).trans (hL.c k hk)
end
theorem at20 {j : Nat} (hj : j < 12) : 268435616#64 + 8#64 * wI (j : Int) = 268435456#64 + wI ((8 * (20 + j) : Nat) : Int) := by
 match j, hj with
 | 0, _ => decide
 | 1, _ => decide
 | 2, _ => decide
 | 3, _ => decide
 | 4, _ => decide
 | 5, _ => decide
 | 6, _ => decide
 | 7, _ => decide
 | 8, _ => decide
 | 9, _ => decide
 | 10, _ => decide
 | 11, _ => decide
 | (n + 12), q => exact absurd q (by omega)
theorem ws_len {ws : List Wd64} : (ws.map zw).length = ws.length * 1 := by rw [List.length_map, Nat.mul_one]
theorem ws_at {ws : List Wd64} {j : Nat} (h : j < ws.length) : (ws.map zw)[j * 1 + 0]? = some (zw (ws.getD j 0#64)) := by
 rw [Nat.mul_one, Nat.add_zero, List.getElem?_map, List.getElem?_eq_getElem h]
 simp [h]
theorem row_at {c c' : Nat → Wd64} (h : row20 c = row20 c') {k : Nat} (hk : k < 12) : c (20 + k) = c' (20 + k) := List.map_inj_left.1 h k (List.mem_range.2 hk)
theorem updC_eq (c : Nat → Wd64) (k : Nat) (x : Wd64) : updC c k x k = x := by unfold updC; rw [Nat.beq_refl]; rfl
theorem updC_ne (c : Nat → Wd64) {k j : Nat} (x : Wd64) (h : j ≠ k) : updC c k x j = c j := by unfold updC; rw [beqF h]; rfl
theorem idle_20 {y u : Wd64} {c : Nat → Wd64} (h : Idle y u c) {k : Nat} (hk : k < 12) (x : Wd64) : Idle y u (updC c (20 + k) x) := by
 refine ⟨?_, ?_, fun j hj => ?_, ?_, ?_, ?_, ?_, ?_, ?_, ?_⟩ <;> (repeat rw [updC_ne _ _ (by omega)])
 ·exact h.top
 ·exact h.raised
 ·exact h.exns j hj
 ·exact h.nb
 ·exact h.nn
 ·exact h.ne
 ·exact h.on
 ·exact h.oe
 ·exact h.mke
 exact h.hf
theorem row_33 (c : Nat → Wd64) (x : Wd64) : row20 (updC c 33 x) = row20 c := by kernel_rfl
end Go.Proofs.YtpgbpdnmjeoeoaaGreat.G

namespace Go.Proofs.YtpgbpdnmjeoeoaaGreat.G
open Go Go.RowKit

open B
set_option maxRecDepth 100000
section
variable {cx : Cx} {env : Env} {S : St} {o : Oper} {g : Bool} {x y : Operand}
theorem freeConvW {src dst : TypeId} {k : IntKind} {p : Int} {d : TypeDesc} (ho : o.op = .convert src dst x) (hs : cx.P.underlying src = some d) (hd : kindOf cx.P dst = some .u64) (hx : Ev env true x (.v (.int k p))) : ∀ a w, Sim cx env S a w → ∃ u, VRep w (cx.X ++ M S) (zw (wI p)) u ∧ ∀ w', (execOp a.eval o).run cx.P w' = .ok (.value u) w' :=
 fun a w hsim => ⟨_, .v _, fun w' => by
  simp only [execOp, ho, hx.val hsim rfl, convert, Sem.run_bind, run_underlying hs, run_underlying (kindOf_spec hd), Result.andThen_ok, Conv.intToInt, Sem.run_pure, wI_nat]⟩
theorem freeMulW {ty yt : TypeId} {p q : Wd64} (ho : o.op = .binOp .mul ty x y yt) (hx : Ev env true x (zw p)) (hy : Ev env true y (zw q)) : ∀ a w, Sim cx env S a w → ∃ u, VRep w (cx.X ++ M S) (zw (p * q)) u ∧ ∀ w', (execOp a.eval o).run cx.P w' = .ok (.value u) w' :=
 fun a w hs => ⟨_, .v _, fun w' => by rw [exec_binOp_int ho (hx.val hs rfl) (hy.val hs rfl)]; simp [binOp, Op.intArith, Sem.run_pure, mul_word]⟩
theorem freeAddW {ty yt : TypeId} {p q : Wd64} (ho : o.op = .binOp .add ty x y yt) (hx : Ev env true x (zw p)) (hy : Ev env true y (zw q)) : ∀ a w, Sim cx env S a w → ∃ u, VRep w (cx.X ++ M S) (zw (p + q)) u ∧ ∀ w', (execOp a.eval o).run cx.P w' = .ok (.value u) w' :=
 fun a w hs => ⟨_, .v _, fun w' => by rw [exec_binOp_int ho (hx.val hs rfl) (hy.val hs rfl)]; simp [binOp, Op.intArith, Sem.run_pure, add_word]⟩
end
theorem header5 : ACalls Tryz.prog 9 [.agg [zi 2, zi 0, sv [], .v (.slice none 0 0)]] [] (fun t S => t = zw 5#64) := (Header9t [] (by decide)).mono fun t S h => h.trans (by kernel_rfl)
set_option maxHeartbeats 8000000 in
theorem GcrtLeaves5 (ws : List Wd64) (n many : Int) (h0 : -9223372036854775808 ≤ n) (h1 : n ≤ 9223372036854775807) (h2 : -9223372036854775808 ≤ many) (h3 : many ≤ 9223372036854775807) :
    ACalls Tryz.prog 5 [.sl 1 (ws.map zw), zi n, zi many] [] (fun t S => t = bv true) := by
 have hz := size_n n
 have hz2 : 65536 ≤ (sizeG n).toNat ∧ (sizeG n).toNat < 105536 := hz
 have hy : (sizeG n).toNat ≤ 1099511627776 := by omega
 have hpk := pick_in many (n := 40) (by decide)
 refine ACalls.intro Tryz.func5 rfl Tryz.ntmps5 nB rfl fun X w0 => ?_
 refine ra ?_
 refine rs (ym ?_)
 refine AWL.callT rfl rfl (B rfl) rfl ce_11 (E rfl rfl) (evsC (E rfl rfl) evs0) (size11 n h0 h1) ?_
 rintro t19 S19 rfl
 refine cA ce_7 rfl rfl rfl (begun7 (sizeG n) hy) ?_
 rintro t20 S20 ⟨L, m2, q2, mR, rfl, hbs, hde, hRe, hq2, hst2, rfl⟩
 refine ya ?_
 refine AW.seq ?_
 refine rs (ym ?_)
 refine Y1 (Yv.eqlNilP rfl pn_23 eV) (nl ?_)
 refine AW.cond rfl (fun h0t => ?_) (fun h0f => ?_)
 ·try replace h0t := odt h0t
  cases h0t
 try replace h0f := odf h0f
 refine AW.skip ?_
 refine AW.seq ?_
 refine ra ?_
 refine AW.block ?_
 refine AW.loop4 (fun (k : Nat) (m : Mc) (q : DQ) (c : Nat → Wd64) => [(0, true, .sl 1 (ws.map zw)), (2, true, zi many), (7, true, .v (.pointer (some ⟨L.s, 0, none⟩))), (8, true, zi (k : Int))]) (fun (k : Nat) (m : Mc) (q : DQ) (c : Nat → Wd64) => (DP L m q)) (fun (k : Nat) (m : Mc) (q : DQ) (c : Nat → Wd64) => Live (sizeG n) c (8000000000000) m q ∧ k ≤ 12 ∧ k ≤ ws.length ∧ Idle (sizeG n) 0#64 c ∧ ∀ i, i < k → c (20 + i) = ws.getD i 0#64) (fun (k : Nat) (m : Mc) (q : DQ) (c : Nat → Wd64) => 12 - k) 0 m2 q2 ((symS (stS (sizeG n) (smallB (sizeG n)) (fun _ => 0#64))).c) ?_ ?_ ?_ ?_
 ·exact ⟨Live.of hde hRe hq2 hst2, by omega, by omega, st_idle _, fun i hi => absurd hi (by omega)⟩
 ·exact (su (su (su (su sn))))
 ·rfl
 intro k m q c ⟨hL0, hk12, hkl, hI0, hW0⟩
 refine AW.seq ?_
 refine rs (ym ?_)
 refine ym ?_
 refine Y1 (Yv.lenSl rfl so_32 (B rfl) eV ws_len) ?_
 refine Y1 (Yv.lss rfl eV eV) ?_
 refine ym ?_
 refine gT (Yv.move rfl eV) ?_
 refine gT (Yv.lss rfl (Eg rfl rfl id) eV) ?_
 refine Y1 (Yv.pickAnd rfl eV (Eg rfl rfl id)) (nl ?_)
 refine AW.cond rfl (fun h1t => ?_) (fun h1f => ?_)
 ·try replace h1t := odt h1t
  have hk : k < ws.length ∧ k < 12 := by simp at h1t; omega
  refine AW.skip ?_
  refine AW.seq ?_
  refine AW.block ?_
  refine AW.region ?_
  refine ym ?_
  refine ym ?_
  refine Y1 (Yv.convW rfl Tryz.underlying3 kd_22 eV) ?_
  refine Y1 (Yv.mulW (a := 8#64) rfl eV eV) ?_
  refine Y1 (Yv.addW (a := 268435616#64) rfl eV eV) ?_
  refine ym ?_
  refine ym ?_
  refine Y1 (Yv.indexSl rfl ss_32 (B rfl) eV eV (fun hg => ⟨rfl, (by first | omega | (simp only [ws_len]; omega))⟩)) ?_
  refine Y1 (Yv.loadRp rfl ag_22 eV (fun hg => ws_at (by omega))) ?_
  refine cA ce_15 rfl rfl rfl (cell_store hL0 (ws.getD k 0#64) (268435616#64 + 8#64 * wI (k : Int)) (20 + k) (by omega) (at20 (by omega))) ?_
  rintro t42 S42 ⟨q1, rfl, hL1, rfl⟩
  refine nl ?_
  refine AW.region ?_
  refine ym ?_
  refine Y1 (Yv.addN_i64 rfl eV eV (fun hg => by omega)) ?_
  refine ya ?_
  exact ⟨k + 1, storeM m _ _, q1, updC c (20 + k) (ws.getD k 0#64), ⟨hL1, by omega, by omega, idle_20 hI0 (by omega) _, fun i hi => by
   rcases Nat.lt_or_ge i k with z | z
   ·rw [updC_ne _ _ (by omega)]; exact hW0 i z
   ·obtain rfl : i = k := by omega
    exact updC_eq _ _ _⟩, by omega, (su (su (su (su sn)))), rfl⟩
 try replace h1f := odf h1f
 have hk : ¬ (k < ws.length ∧ k < 12) := by simp at h1f; omega
 refine AW.exit ?_
 refine rs (ym ?_)
 refine AWL.callT rfl rfl (B rfl) rfl ce_12 (E rfl rfl) (evsC (E rfl rfl) (evsC (E rfl rfl) evs0)) (pick12 many 40 h2 h3 (by decide)) ?_
 rintro t44 S44 rfl
 refine ya ?_
 refine AW.seq ?_
 refine ra ?_
 refine AW.block ?_
 refine AW.loop4 (fun (i : Nat) (mi : Mc) (qi : DQ) (ci : Nat → Wd64) => [(0, true, .sl 1 (ws.map zw)), (7, true, .v (.pointer (some ⟨L.s, 0, none⟩))), (9, true, zi (pickF many 40)), (10, true, zi (i : Int))]) (fun (i : Nat) (mi : Mc) (qi : DQ) (ci : Nat → Wd64) => (DP L mi qi)) (fun (i : Nat) (mi : Mc) (qi : DQ) (ci : Nat → Wd64) => Live (sizeG n) ci (8000000000000 + 3000000 * (i : Int)) mi qi ∧ (i : Int) ≤ pickF many 40 ∧ Idle (sizeG n) 0#64 ci ∧ row20 ci = row20 c) (fun (i : Nat) (mi : Mc) (qi : DQ) (ci : Nat → Wd64) => (pickF many 40).toNat - i) 0 m q c ?_ ?_ ?_ ?_
 ·exact ⟨by simpa using hL0, by omega, hI0, rfl⟩
 ·exact (su (su (su (su sn))))
 ·rfl
 intro i mi qi ci ⟨hLi, hib, hIi, hRi⟩
 refine AW.seq ?_
 refine rs (ym ?_)
 refine ym ?_
 refine Y1 (Yv.lss rfl eV eV) (nl ?_)
 refine AW.cond rfl (fun h2t => ?_) (fun h2f => ?_)
 ·try replace h2t := odt h2t
  refine AW.skip ?_
  refine AW.seq ?_
  refine AW.block ?_
  refine rs (ym ?_)
  refine AWL.buildSlice1 rfl rfl (B rfl) rfl el_32 rfl (evsC (E rfl rfl) evs0) nB rfl rfl ?_
  refine cA ce_13 rfl rfl rfl (ls_live (n := 4096#64) hbs hLi hz2 (by omega) hIi (by decide)) ?_
  rintro t53 S53 ⟨m4, q4, rfl, hL4, rfl⟩
  refine ym ?_
  refine Y1 (Yv.extract rfl eV rfl) ?_
  refine Y1 (Yv.extract rfl eV rfl) ?_
  refine Y1 (Yv.assign rfl eV) ?_
  refine ya ?_
  refine AW.seq ?_
  refine rs (ym ?_)
  refine Y1 (Yv.not rfl eV) ?_
  refine ym ?_
  refine AWL.unguard rfl rfl rfl rfl ?_
  refine ym ?_
  refine AWL.unguard rfl rfl rfl rfl ?_
  refine ym ?_
  refine AWL.unguard rfl rfl rfl rfl ?_
  refine Y1 (Yv.buildS rfl sh_31 (evpC eV evp0) (fun _ => rfl)) ?_
  refine AWL.unguard rfl rfl rfl rfl ?_
  refine AWL.callT rfl rfl (B rfl) rfl ce_9 (E rfl rfl) (evsC (E rfl rfl) evs0) (header5) ?_
  rintro t62 S62 rfl
  refine AWL.unguard rfl rfl rfl rfl ?_
  refine Y1 (Yv.addW (b := 68585259008#64) rfl eV eV) ?_
  refine AWL.unguard rfl rfl rfl rfl ?_
  refine cA ce_15 rfl rfl rfl (heap_store hL4 hz2.2 68585259013#64 1073741824#64 (by decide) (by show 1073741824 + 8 ≤ _; omega)) ?_
  rintro t64 S64 ⟨q5, rfl, hL5, rfl⟩
  refine AWL.unguard rfl rfl rfl rfl ?_
  refine Y1 (Yv.not rfl eV) ?_
  refine Y1 (Yv.pickOr (t := .const (.bool true)) rfl eV eV) (nl ?_)
  refine AW.cond rfl (fun h3t => ?_) (fun h3f => ?_)
  ·try replace h3t := odt h3t
   exact absurd (show (false : Bool) = true from h3t) (by decide)
  try replace h3f := odf h3f
  refine AW.skip ?_
  refine rs (ym ?_)
  refine cA ce_13 rfl rfl rfl (mi_live hbs hL5 hz2 (by omega) (ls_idle hIi) (by decide)) ?_
  rintro t69 S69 ⟨m6, q6, rfl, hL6, rfl⟩
  refine ym ?_
  refine Y1 (Yv.extract rfl eV rfl) ?_
  refine Y1 (Yv.extract rfl eV rfl) ?_
  refine Y1 (Yv.assign rfl eV) ?_
  refine ya ?_
  refine rs (ym ?_)
  refine cA ce_13 rfl rfl rfl (ma_live hbs hL6 hz2 (by omega) (mi_idle (ls_idle hIi))) ?_
  rintro t74 S74 ⟨m7, q7, rfl, hL7, rfl⟩
  refine ym ?_
  refine Y1 (Yv.extract rfl eV rfl) ?_
  refine Y1 (Yv.extract rfl eV rfl) ?_
  refine Y1 (Yv.assign rfl eV) ?_
  refine ya ?_
  refine rs (ym ?_)
  refine Y1 (Yv.not rfl eV) ?_
  refine ym ?_
  refine gF (Yv.move rfl eV) ?_
  refine gF (Yv.not rfl (Eg rfl rfl id)) ?_
  refine Y1 (Yv.pickOr (t := .const (.bool true)) rfl eV (Eg rfl rfl id)) (nl ?_)
  refine AW.cond rfl (fun h4t => ?_) (fun h4f => ?_)
  ·try replace h4t := odt h4t
   exact absurd (show (false : Bool) = true from h4t) (by decide)
  try replace h4f := odf h4f
  refine AW.skip ?_
  refine AW.region ?_
  refine ym ?_
  refine Y1 (Yv.addN_i64 rfl eV eV (fun hg => by omega)) ?_
  refine ya ?_
  exact ⟨i + 1, m7, q7, (symS (maS (sizeG n) _)).c, ⟨by have := hL7; rw [show 8000000000000 + 3000000 * ((i + 1 : Nat) : Int) = 8000000000000 + 3000000 * (i : Int) + 1000000 + 1000000 + 1000000 by omega]; exact this, by omega, ma_idle (mi_idle (ls_idle hIi)), by rw [ma_20, mi_20, row_33]; exact hRi⟩, by omega, (su (su (su (su sn)))), rfl⟩
 try replace h2f := odf h2f
 refine AW.exit ?_
 refine AW.seq ?_
 refine ra ?_
 refine AW.block ?_
 refine AW.loop (fun (j : Nat) => [(0, true, .sl 1 (ws.map zw)), (7, true, .v (.pointer (some ⟨L.s, 0, none⟩))), (17, true, zi (j : Int))]) (fun (j : Nat) => (DP L mi qi)) (fun (j : Nat) => j ≤ 12 ∧ j ≤ ws.length) (fun (j : Nat) => 12 - j) 0 ?_ ?_ ?_ ?_
 ·exact ⟨by omega, by omega⟩
 ·exact (su (su (su sn)))
 ·rfl
 intro j hinv
 refine AW.seq ?_
 refine rs (ym ?_)
 refine ym ?_
 refine Y1 (Yv.lenSl rfl so_32 (B rfl) eV ws_len) ?_
 refine Y1 (Yv.lss rfl eV eV) ?_
 refine ym ?_
 refine gT (Yv.move rfl eV) ?_
 refine gT (Yv.lss rfl (Eg rfl rfl id) eV) ?_
 refine Y1 (Yv.pickAnd rfl eV (Eg rfl rfl id)) (nl ?_)
 refine AW.cond rfl (fun h5t => ?_) (fun h5f => ?_)
 ·try replace h5t := odt h5t
  have hj : j < ws.length ∧ j < 12 := by simp at h5t; omega
  refine AW.skip ?_
  refine AW.seq ?_
  refine AW.block ?_
  refine AW.mid (α := Unit) (fun _ => [(0, true, .sl 1 (ws.map zw)), (7, true, .v (.pointer (some ⟨L.s, 0, none⟩))), (17, true, zi (j : Int)), (103, true, bv false)]) (fun _ => DP L mi qi) (fun _ => True) ?_ ?_
  ·refine AW.regionP rfl ?_
   refine T1 (i := 0) rfl (freeMove rfl (E rfl rfl)) ?_
   refine T1 (i := 1) rfl (freeMove rfl (E rfl rfl)) ?_
   refine T1 (i := 2) rfl (freeConvW rfl Tryz.underlying3 kd_22 (E rfl rfl)) ?_
   refine T1 (i := 3) rfl (freeMulW (p := 8#64) rfl (E rfl rfl) (E rfl rfl)) ?_
   refine T1 (i := 4) rfl (freeAddW (p := 268435616#64) rfl (E rfl rfl) (E rfl rfl)) ?_
   refine T1 (i := 6) rfl (freeMove rfl (E rfl rfl)) ?_
   refine T1 (i := 7) rfl (freeMove rfl (E rfl rfl)) ?_
   refine T1 (i := 8) rfl (freeIdxSl (j := j) rfl ss_32 (B rfl) (E rfl rfl) (E rfl rfl) ⟨rfl, idxB ws_len hj.1⟩) ?_
   refine AWP.two (i := 5) (j := 9) (by kernel_rfl) rfl rfl ?_ ?_
   ·refine cA ce_8 rfl rfl rfl ((Word8 L gcP gc_ok gc_in mi qi hLi.prog hLi.rel (268435616#64 + 8#64 * wI (j : Int))).mono (fun t S hh => by rw [word_live hLi (20 + j) (by omega) (at20 (by omega)), row_at hRi (by omega), hW0 j (by omega)] at hh; exact hh)) ?_
    rintro t98 S98 ⟨rfl, rfl⟩
    refine nl ?_
    refine p1 9 ?_
    refine Y1 (Yv.loadRp rfl ag_22 eV (fun hg => ws_at (by omega))) (nl ?_)
    refine p1 10 ?_
    refine Y1 (Yv.neqW rfl eV eV) (nl ?_)
    refine AWP.done (by kernel_rfl) ?_
    exact ⟨(), trivial, (su (su (su (Sub.cons rfl (by rw [show decide (ws.getD j 0#64 = ws.getD j 0#64) = true from decide_eq_true rfl]; rfl) Sub.nil)))), rfl⟩
   refine Y1 (Yv.loadRp rfl ag_22 eV (fun hg => ws_at (by omega))) (nl ?_)
   refine p1 5 ?_
   refine cA ce_8 rfl rfl rfl ((Word8 L gcP gc_ok gc_in mi qi hLi.prog hLi.rel (268435616#64 + 8#64 * wI (j : Int))).mono (fun t S hh => by rw [word_live hLi (20 + j) (by omega) (at20 (by omega)), row_at hRi (by omega), hW0 j (by omega)] at hh; exact hh)) ?_
   rintro t98 S98 ⟨rfl, rfl⟩
   refine nl ?_
   refine p1 10 ?_
   refine Y1 (Yv.neqW rfl eV eV) (nl ?_)
   refine AWP.done (by kernel_rfl) ?_
   exact ⟨(), trivial, (su (su (su (Sub.cons rfl (by rw [show decide (ws.getD j 0#64 = ws.getD j 0#64) = true from decide_eq_true rfl]; rfl) Sub.nil)))), rfl⟩
  rintro _ _
  refine AW.cond rfl (fun h6t => ?_) (fun h6f => ?_)
  ·try replace h6t := odt h6t
   cases h6t
  try replace h6f := odf h6f
  refine AW.skip ?_
  refine AW.region ?_
  refine ym ?_
  refine Y1 (Yv.addN_i64 rfl eV eV (fun hg => by omega)) ?_
  refine ya ?_
  exact ⟨j + 1, ⟨by omega, by omega⟩, by omega, (su (su (su sn))), rfl⟩
 try replace h5f := odf h5f
 have hj : ¬ (j < ws.length ∧ j < 12) := by simp at h5f; omega
 refine AW.exit ?_
 refine ra ?_
 refine AW.ret (retI (.tmp rfl .nil) ?_)
 rfl

end Go.Proofs.YtpgbpdnmjeoeoaaGreat.G

namespace Go.Proofs.YtpgbpdnmjeoeoaaGreat
open Go.ChangeShapes Go.WideShapes Go.ChangeAt Go Go.RowKit
theorem bulk_one {H : Type} (d : DataW H) : 1 ≤ Rows.uptoBulk d := by
 cases d with
 | lit l => cases l <;> simp [Rows.uptoBulk]
 | _ => simp [Rows.uptoBulk]
theorem bulk_append {H : Type} (l r : List (DataW H)) : Rows.uptoBulkAll (l ++ r) = Rows.uptoBulkAll l + Rows.uptoBulkAll r := by
 induction l with
 | nil => simp [Rows.uptoBulkAll]
 | cons x s ih => simp only [Rows.uptoBulkAll, List.cons_append, ih]; omega
theorem cell_lt {w : World} {a : Addr} {v : Value} (h : w.cell? a = some v) : a.block < w.heap.size := by
 rcases Nat.lt_or_ge a.block w.heap.size with hn | hn
 ·exact hn
 simp [World.cell?, Array.getElem?_eq_none hn] at h
structure Opens (P : Program) (t : TypeId) {X : Type} (k : Nat) (cells : X → List T) (bulk : X → Nat) (ok : X → Prop) : Prop where
 size : P.cellsOf t = k
 one : ∀ {H : Type} {enc : TypeId × Value → H} {w : World} {base : Nat} {spare : Nat → Bool} {held : Bool} {fuel : Nat} {cs : List Value} {x : DataW H × List MemPlace},
  DataW.trod enc P w base spare held fuel t cs = some x → ∃ a, ok a ∧ VReps w [] (cells a) cs ∧ cs.length = k ∧ bulk a ≤ Rows.uptoBulk x.1
theorem Opens.turn {P : Program} {t : TypeId} {X Y : Type} {k : Nat} {cells : X → List T} {cells' : Y → List T} {bulk : X → Nat} {bulk' : Y → Nat} {ok : X → Prop} {ok' : Y → Prop} (h : Opens P t k cells bulk ok) (g : X → Y)
    (h1 : ∀ a, ok a → cells' (g a) = cells a ∧ bulk' (g a) ≤ bulk a ∧ ok' (g a)) : Opens P t k cells' bulk' ok' :=
 ⟨h.size, fun e => by
  obtain ⟨a, h2, h3, h4, h5⟩ := h.one e
  obtain ⟨h6, h7, h8⟩ := h1 a h2
  exact ⟨g a, h8, h6 ▸ h3, h4, Nat.le_trans h7 h5⟩⟩
theorem VReps.single {w : World} {L : List Nat} {t : T} {u : Value} (h : VRep w L t u) (h1 : u.oneCell' = true) : VReps w L [t] [u] := .cons h h1 .nil
theorem opens_int {P : Program} {t : TypeId} {k : IntKind} (ht : P.underlying t = some (.int k)) (hs : P.cellsOf t = 1) : Opens P t 1 (fun z : Int => [.v (.int k z)]) (fun _ => 1) (fun z => (Lit.int k z).wf = true) :=
 ⟨hs, fun e => by
  obtain ⟨n, rfl, rfl, h⟩ := DataW.trod_int ht e
  exact ⟨n, h, .single (.v _) rfl, rfl, bulk_one _⟩⟩
def sumBulk {X : Type} (bulk : X → Nat) (l : List X) : Nat := (l.map bulk).sum
theorem opens_slice {P : Program} {t e : TypeId} {X : Type} {k : Nat} {cells : X → List T} {bulk : X → Nat} {ok : X → Prop} (ht : P.underlying t = some (.slice e)) (hs : P.cellsOf t = 1) (hk : 0 < k) (h : Opens P e k cells bulk ok) :
    Opens P t 1 (fun l : List X => [.sl k (l.flatMap cells)]) (fun l => sumBulk bulk l + 1) (fun l => (∀ a ∈ l, ok a) ∧ l.length ≤ maxLen) :=
 ⟨hs, fun {H enc w base spare held fuel cs x} ex => by
  rcases Go.Deep.open_slice ht ex with ⟨rfl, rfl⟩ | ⟨a, len, cap, m, n, D, Pl, rfl, hb, hl, hm, hmm, rfl, hx⟩
  ·exact ⟨[], ⟨fun a ha => (by cases ha), Nat.zero_le _⟩, .single (.sl0 (Nat.zero_le _)) rfl, rfl, by simp [sumBulk, Rows.uptoBulk]⟩
  ·have hlm : len ≤ m := by rw [hmm]; split <;> omega
   rw [h.size] at hx
   have key : ∀ q, q ≤ len → ∃ (l : List X) (us : List Value), l.length = q ∧ us.length = q * k ∧ VReps w [] (l.flatMap cells) us ∧ (∀ j u, us[j]? = some u → w.cell? (a.add j) = some u) ∧ (∀ a ∈ l, ok a) ∧
       sumBulk bulk l ≤ Rows.uptoBulkAll ((List.range q).map D) := by
    intro q
    induction q with
    | zero => exact fun _ => ⟨[], [], rfl, by simp, .nil, fun j u hu => by simp at hu, fun a ha => (by cases ha), by simp [sumBulk]⟩
    | succ q ih =>
     intro hq
     obtain ⟨l, us, h1, h2, h3, h4, h5, h6⟩ := ih (by omega)
     obtain ⟨cs', h7, h8⟩ := hx q (by omega)
     obtain ⟨a', h9, h10, h11, h12⟩ := h.one h8
     obtain ⟨_, _, h13⟩ := World.cells?_some h7
     refine ⟨l ++ [a'], us ++ cs', by simp [h1], ?_, ?_, ?_, ?_, ?_⟩
     ·rw [List.length_append, h2, h11, Nat.succ_mul]
     ·rw [List.flatMap_append]
      simpa using h3.append h10
     ·intro j u hu
      by_cases hj : j < us.length
      ·rw [List.getElem?_append_left hj] at hu
       exact h4 j u hu
      ·rw [List.getElem?_append_right (by omega)] at hu
       have hjl := (List.getElem?_eq_some_iff.1 hu).1
       have := h13 (j - us.length) (by omega)
       rw [add_add', hu] at this
       rw [← this]
       congr 2
       omega
     ·intro y hy
      rcases List.mem_append.1 hy with hy | hy
      ·exact h5 y hy
      ·rcases List.mem_singleton.1 hy with rfl
       exact h9
     ·rw [List.range_succ, List.map_append, bulk_append]
      simp only [sumBulk, List.map_append, List.sum_append, List.map_cons, List.map_nil, List.sum_cons, List.sum_nil, Rows.uptoBulkAll] at h6 h12 ⊢
      omega
   obtain ⟨l, us, h1, h2, h3, h4, h5, h6⟩ := key len (Nat.le_refl _)
   refine ⟨l, ⟨h5, by omega⟩, .single ?_ rfl, rfl, by simp only [Rows.uptoBulk]; omega⟩
   rcases Nat.eq_zero_or_pos len with rfl | hpos
   ·rw [List.eq_nil_of_length_eq_zero h1]
    exact .sl0 hm
   ·have hlu := h3.len
    have hup : 0 < us.length := by rw [h2]; exact Nat.mul_pos hpos hk
    have hc0 := h4 0 _ (List.getElem?_eq_getElem hup)
    exact .sl hpos (by rw [hlu, h2]) hlu hl hm (by have := cell_lt hc0; rwa [block_add] at this) (by simp) h4 h3.at_ h3.one⟩
theorem Opens.row {P : Program} {t e : TypeId} {X : Type} {cell : X → T} {bulk : X → Nat} {ok : X → Prop} (h : Opens P t 1 (fun a => [cell a]) bulk ok) (ht : P.underlying t = some (.slice e))
    {H : Type} {enc : TypeId × Value → H} {w : World} {base b0 : Nat} {r : Reach} {spare : Nat → Bool} {held : Bool} {v : Value} {d : DataW H} {p : List MemPlace} (hv : Value.okWide P w r b0 t v) (e : DataW.Trod enc P w base spare held t v d p) :
    ∃ a, ok a ∧ VRep w [] (cell a) v ∧ bulk a ≤ Rows.uptoBulk d := by
 obtain ⟨A, l, c, rfl⟩ := okWide_slice ht hv
 obtain ⟨fuel, hf⟩ := e
 obtain ⟨a, h1, h2, h3, h4⟩ := h.one hf
 simp only [Value.cells] at h2 h3
 exact ⟨a, h1, h2.at_ 0 _ _ rfl rfl, h4⟩
end Go.Proofs.YtpgbpdnmjeoeoaaGreat

namespace Go.Proofs.YtpgbpdnmjeoeoaaGreat
open Go Go.RowKit Go.ChangeShapes Go.WideShapes Go.ChangeAt
theorem laidOut : laidOutB Tryz.prog = true := by kernel_rfl
end Go.Proofs.YtpgbpdnmjeoeoaaGreat
namespace Go.Proofs.YtpgbpdnmjeoeoaaGreat.G
open Go.ChangeShapes Go.WideShapes Go.ChangeAt Go Go.RowKit
section
variable {H : Type} {enc : TypeId × Value → H} {w : World} {base b0 : Nat} {spare : Nat → Bool} {held : Bool} {v : Value} {d : DataW H} {p : List MemPlace}
theorem int_u64 {z : Int} (h : (Lit.int .u64 z).wf = true) : 0 ≤ z ∧ z ≤ 18446744073709551615 := by simpa [Lit.wf, IntKind.min, IntKind.max, IntKind.signed, IntKind.bits] using h
theorem int_i64 {z : Int} (h : (Lit.int .i64 z).wf = true) : -9223372036854775808 ≤ z ∧ z ≤ 9223372036854775807 := by simpa [Lit.wf, IntKind.min, IntKind.max, IntKind.signed, IntKind.bits] using h
set_option maxRecDepth 100000 in
theorem open_i64 (hv : Value.okWide Tryz.prog w .any b0 3 v) (e : DataW.Trod enc Tryz.prog w base spare held 3 v d p) : ∃ z : Int, -9223372036854775808 ≤ z ∧ z ≤ 9223372036854775807 ∧ VRep w [] (.v (.int .i64 z)) v := by
 obtain ⟨z, rfl⟩ := okWide_int Tryz.underlying3 hv
 obtain ⟨fuel, hf⟩ := e
 obtain ⟨z', h1, _, h2⟩ := DataW.trod_int Tryz.underlying3 hf
 simp only [Value.cells, List.cons.injEq, Value.int.injEq, true_and, and_true] at h1
 subst h1
 exact ⟨z, (int_i64 h2).1, (int_i64 h2).2, .v _⟩
set_option maxRecDepth 100000 in
theorem opens22 : Opens Tryz.prog 22 1 (fun a : Wd64 => [zw a]) (fun _ => 1) (fun _ => True) :=
 (opens_int Tryz.underlying22 (by kernel_rfl)).turn (fun z => BitVec.ofInt 64 z) (fun z h => ⟨by
  have hz := int_u64 h
  have e : ((BitVec.ofInt 64 z).toNat : Int) = z := by rw [BitVec.toNat_ofInt]; omega
  unfold zw
  rw [e], Nat.le_refl _, trivial⟩)
theorem flat_w : ∀ l : List Wd64, l.flatMap (fun a => [zw a]) = l.map zw
 | [] => rfl
 | a :: l => by rw [List.flatMap_cons, flat_w l]; rfl
theorem opens32 : Opens Tryz.prog 32 1 (fun l : List Wd64 => [.sl 1 (l.map zw)]) (fun _ => 0) (fun _ => True) :=
 (opens_slice Tryz.underlying32 (by kernel_rfl) (by decide) opens22).turn (fun l => l) (fun l h => ⟨by rw [flat_w], Nat.zero_le _, trivial⟩)
set_option maxRecDepth 100000 in
theorem open_u64s (hv : Value.okWide Tryz.prog w .any b0 32 v) (e : DataW.Trod enc Tryz.prog w base spare held 32 v d p) : ∃ l : List Wd64, VRep w [] (.sl 1 (l.map zw)) v := by
 obtain ⟨l, _, h2, _⟩ := Opens.row (cell := fun l : List Wd64 => T.sl 1 (l.map zw)) opens32 Tryz.underlying32 hv e
 exact ⟨l, h2⟩
end
end Go.Proofs.YtpgbpdnmjeoeoaaGreat.G
