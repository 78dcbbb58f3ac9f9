/-
  TEXTS JOINED: Gk3, GGe, Gk7, GGf, Gk8, GGo.
-/
import Derived.Test.YtpgbpdnmjeoeoaaGreatRows
import Derived.ProofKit
import Derived.OpenShut
import Derived.JoinedCond
import Derived.Carry
import Derived.Deep.Slices
import Derived.Test.YtpgbpdnmjeoeoaaGreatKe
set_option linter.unusedSimpArgs false
set_option linter.unusedVariables false
set_option linter.unusedSectionVars false
set_option linter.unnecessarySimpa false
namespace Go.Proofs.YtpgbpdnmjeoeoaaGreat.G
open Go Go.RowKit

open B
set_option maxRecDepth 100000
set_option maxHeartbeats 4000000 in
theorem begun7 (h : Wd64) (hh : h.toNat ≤ 1099511627776) :
    ACalls Tryz.prog 7 [zw h] [] (fun t S => ∃ L m2 q2 mR, t = .v (.pointer (some ⟨L.s, 0, none⟩)) ∧ L.bs.length = gcP.funs.length ∧ DEnd m2 mR ∧ Ended gcP h w00 (symS (stS h (smallB h) (fun _ => 0#64))).c 1#64 mR ∧ DRel m2 q2 ∧ (0 ≤ m2.c.steps ∧ m2.c.steps ≤ 8000000000000) ∧ S = DP L m2 q2) := by
 obtain ⟨mR, hRn, hRw, hRe⟩ := start_run (h := h) (w := w00) (m := (newM gcP h false w00)) (c := fun _ => 0#64) rfl rfl rfl rfl cells0
 refine ACalls.intro Tryz.func7 rfl Tryz.ntmps7 nB rfl fun X w0 => ?_
 refine ra ?_
 refine rs ?_
 refine cE ce_18 [] [] rfl rfl rfl (B.cProgram) ?_
 rintro t7 S7 ⟨rfl, rfl⟩
 refine AWL.allocOp rfl rfl (B rfl) rfl zc_56 (fun b3 => ?_)
 refine AWL.perm (List.perm_append_singleton _ _).symm ?_
 refine AWL.storeBox (i := 0) rfl rfl rfl ag_56 rfl (E rfl rfl) (E rfl rfl) rfl rfl nB (nl ?_)
 refine AW.seq ?_
 refine rs (Y1 (Yv.loadBoxA rfl ag_56 (i := 0) rfl eV rfl rfl) ?_)
 refine AWL.callT rfl rfl (B rfl) rfl ce_19 (E rfl rfl) (evsC (E rfl rfl) evs0) (checkGc) ?_
 rintro t9 S9 rfl
 refine Y1 (Yv.neq rfl eV eV) (nl ?_)
 refine AW.cond rfl (fun h0t => ?_) (fun h0f => ?_)
 ·try replace h0t := odt h0t
  cases h0t
 try replace h0f := odf h0f
 refine AW.skip ?_
 refine AW.mid (α := DLay × DQ) (fun y => [(0, true, zw h), (3, true, pv b3), (4, true, .v (.pointer (some ⟨y.1.s, 0, none⟩)))]) (fun y => DP y.1 (newM gcP h false w00) y.2 ++ [Ent.box b3 56 (progCells gcP)]) (fun y => y.1.bs.length = gcP.funs.length ∧ DRel (newM gcP h false w00) y.2) ?_ ?_
 ·refine AW.regionP rfl ?_
  refine T1 (i := 1) rfl (freeMove rfl (E rfl rfl)) ?_
  refine AWP.two (i := 0) (j := 2) (by kernel_rfl) rfl rfl ?_ ?_
  ·refine Y1 (Yv.loadBoxA rfl ag_56 (i := 0) rfl eV rfl rfl) (nl ?_)
   refine p1 2 ?_
   refine Y1 (Yv.buildS rfl sh_64 evp0 (fun _ => rfl)) (nl ?_)
   refine p1 3 ?_
   refine cE ce_21 [Ent.box b3 56 (progCells gcP)] [] rfl rfl rfl ((V.DNew21 [] [] (Nat.zero_le _) (fun x hx => by cases hx) (fun x hx => by cases hx)).le (.cons wt_le .refl)) ?_
   rintro t14 S14 ⟨db, ds, rfl, rfl, hds, hdo, hdt, hdn⟩
   refine nl ?_
   refine p1 4 ?_
   refine AWL.callE rfl rfl (B rfl) rfl ce_20 (E rfl rfl) (evsC (E rfl rfl) (evsC (E rfl rfl) (evsC (E rfl rfl) (evsC (E rfl rfl) evs0)))) (F1 := ([Ent.box b3 56 (progCells gcP)] ++ V.DSt db ds)) (S1 := []) (List.append_nil _).symm (DNew35 gcP h false db gc_in gc_ok) ?_
   rintro t15 S15 ⟨b20, b18, gl, cc, bs, g, c2, a, l, rfl, hbs, hlo, hlm, rfl⟩
   refine AWL.perm (S' := DP ⟨b20, gl, cc, b18, db, bs⟩ (newM gcP h false w00) ⟨g, c2, a, [], l, ds, false⟩ ++ [Ent.box b3 56 (progCells gcP)]) permN (nl ?_)
   refine p1 5 ?_
   refine ya ?_
   refine AWP.done (by kernel_rfl) ?_
   exact ⟨(⟨b20, gl, cc, b18, db, bs⟩, ⟨g, c2, a, [], l, ds, false⟩), ⟨hbs, ⟨rfl, hlo, hlm, side00 hds hdo hdt hdn⟩⟩, (su (su (su sn))), rfl⟩
  refine Y1 (Yv.buildS rfl sh_64 evp0 (fun _ => rfl)) (nl ?_)
  refine AWP.two (i := 0) (j := 3) (by kernel_rfl) rfl rfl ?_ ?_
  ·refine Y1 (Yv.loadBoxA rfl ag_56 (i := 0) rfl eV rfl rfl) (nl ?_)
   refine p1 3 ?_
   refine cE ce_21 [Ent.box b3 56 (progCells gcP)] [] rfl rfl rfl ((V.DNew21 [] [] (Nat.zero_le _) (fun x hx => by cases hx) (fun x hx => by cases hx)).le (.cons wt_le .refl)) ?_
   rintro t14 S14 ⟨db, ds, rfl, rfl, hds, hdo, hdt, hdn⟩
   refine nl ?_
   refine p1 4 ?_
   refine AWL.callE rfl rfl (B rfl) rfl ce_20 (E rfl rfl) (evsC (E rfl rfl) (evsC (E rfl rfl) (evsC (E rfl rfl) (evsC (E rfl rfl) evs0)))) (F1 := ([Ent.box b3 56 (progCells gcP)] ++ V.DSt db ds)) (S1 := []) (List.append_nil _).symm (DNew35 gcP h false db gc_in gc_ok) ?_
   rintro t15 S15 ⟨b20, b18, gl, cc, bs, g, c2, a, l, rfl, hbs, hlo, hlm, rfl⟩
   refine AWL.perm (S' := DP ⟨b20, gl, cc, b18, db, bs⟩ (newM gcP h false w00) ⟨g, c2, a, [], l, ds, false⟩ ++ [Ent.box b3 56 (progCells gcP)]) permN (nl ?_)
   refine p1 5 ?_
   refine ya ?_
   refine AWP.done (by kernel_rfl) ?_
   exact ⟨(⟨b20, gl, cc, b18, db, bs⟩, ⟨g, c2, a, [], l, ds, false⟩), ⟨hbs, ⟨rfl, hlo, hlm, side00 hds hdo hdt hdn⟩⟩, (su (su (su sn))), rfl⟩
  refine cE ce_21 [Ent.box b3 56 (progCells gcP)] [] rfl rfl rfl ((V.DNew21 [] [] (Nat.zero_le _) (fun x hx => by cases hx) (fun x hx => by cases hx)).le (.cons wt_le .refl)) ?_
  rintro t14 S14 ⟨db, ds, rfl, rfl, hds, hdo, hdt, hdn⟩
  refine nl ?_
  refine p1 0 ?_
  refine Y1 (Yv.loadBoxA rfl ag_56 (i := 0) rfl eV rfl rfl) (nl ?_)
  refine p1 4 ?_
  refine AWL.callE rfl rfl (B rfl) rfl ce_20 (E rfl rfl) (evsC (E rfl rfl) (evsC (E rfl rfl) (evsC (E rfl rfl) (evsC (E rfl rfl) evs0)))) (F1 := ([Ent.box b3 56 (progCells gcP)] ++ V.DSt db ds)) (S1 := []) (List.append_nil _).symm (DNew35 gcP h false db gc_in gc_ok) ?_
  rintro t15 S15 ⟨b20, b18, gl, cc, bs, g, c2, a, l, rfl, hbs, hlo, hlm, rfl⟩
  refine AWL.perm (S' := DP ⟨b20, gl, cc, b18, db, bs⟩ (newM gcP h false w00) ⟨g, c2, a, [], l, ds, false⟩ ++ [Ent.box b3 56 (progCells gcP)]) permN (nl ?_)
  refine p1 5 ?_
  refine ya ?_
  refine AWP.done (by kernel_rfl) ?_
  exact ⟨(⟨b20, gl, cc, b18, db, bs⟩, ⟨g, c2, a, [], l, ds, false⟩), ⟨hbs, ⟨rfl, hlo, hlm, side00 hds hdo hdt hdn⟩⟩, (su (su (su sn))), rfl⟩
 rintro ⟨L, q⟩ ⟨hbs, hq⟩
 refine rs (ym ?_)
 refine AWL.callF rfl rfl (B rfl) rfl ce_13 (E rfl rfl) (evsC (E rfl rfl) (evsC (E rfl rfl) (evsC (E rfl rfl) evs0))) (F1 := []) (S1 := (DP L (newM gcP h false w00) q)) (F2 := [Ent.box b3 56 (progCells gcP)]) rfl ((Call13 L gcP gc_ok gc_in (newM gcP h false w00) q rfl hq hbs nmStart [] 1 (by rw [gc_len]; decide) st_name st_no st_par (Nat.zero_le _) hh ⟨(by show (0 : Int) ≤ 0; decide), (by show (0 : Int) ≤ 4611686018427387904; decide)⟩ (fun j => by rw [hRw j]; exact rp00)).le (.cons .refl (.cons .refl (.cons nilW .refl)))) ?_
 rintro t18 S18 ⟨m2, q2, rfl, hde, hq2, rfl⟩
 refine ym ?_
 refine Y1 (Yv.extract rfl eV rfl) ?_
 refine Y1 (Yv.extract rfl eV rfl) ?_
 refine Y1 (Yv.assign rfl eV) ?_
 refine ya ?_
 have hN : 91 ≤ (mostF h).toNat := by unfold mostF; omega
 replace hde : DEnd m2 mR := by have := hRn _ hN; rw [← this]; exact hde
 have hst : m2.c.st = 3 := by rw [c_end hde]; exact hRe.st
 have hsr := steps_run (entM_ok (m := (newM gcP h false w00)) (n := 1) (args := []) gc_ok rfl (by rw [gc_len]; decide) st_par) (mostF h).toNat (by show (0 : Int) ≤ 0; decide)
 rw [hRn _ hN] at hsr
 have hmb := most_b hh
 refine AW.seq ?_
 refine rs (ym ?_)
 refine Y1 (Yv.not rfl eV) (nl ?_)
 refine AW.cond rfl (fun h1t => ?_) (fun h1f => ?_)
 ·try replace h1t := odt h1t
  exfalso; rw [hst] at h1t; cases h1t
 try replace h1f := odf h1f
 refine AW.skip ?_
 refine rs (ym ?_)
 refine ya ?_
 refine AW.drop (S' := DP L m2 q2) (List.sublist_append_left (DP L m2 q2) _) ?_
 refine AW.ret (retI (.tmp rfl .nil) ?_)
 refine ⟨L, m2, q2, mR, rfl, hbs, hde, hRe, hq2, ?_, rfl⟩
 rw [c_end hde]
 refine ⟨hsr.1, Int.le_trans hsr.2 ?_⟩
 show (0 : Int) + ((mostF h).toNat : Int) ≤ _
 unfold mostF
 omega

end Go.Proofs.YtpgbpdnmjeoeoaaGreat.G

namespace Go.Proofs.YtpgbpdnmjeoeoaaGreat.G
open Go Go.RowKit B
set_option maxRecDepth 100000
section
variable {RF : Int → Wd64 → Wd64 → Wd64} {P : Prog} {h : Wd64} {e b : Bool} {w w' : V.PW} {s s' : Sy} {m : Mc} {obs : List Ob}
theorem run_w (hm : Is P h e w s m) {q : Mc} (hq : stepM RF (advM m) (insS P s.top) = some q) (hs : Is P h e w' s' q) : ∃ m', (∀ N, runM RF (N + 1) m = runM RF N m') ∧ Is P h e w' s' m' := by
 refine ⟨tickC q, fun N => ?_, ⟨hs.prog, hs.heap, hs.strict, hs.ent, hs.st, hs.w, hs.top, hs.bl, hs.c⟩⟩
 rw [runM, if_neg (fun q => q hm.st), (adv_is hm).2, hq]
theorem sysA_map (x : Fr) (i : Ins) (k : Nat) : sysA x i k = (i.args.map (rA x)).getD k 0#64 := by
 have e : (i.args.map (rA x)).getD k 0#64 = ((i.args[k]?).map (rA x)).getD 0#64 := by rw [List.getD_eq_getElem?_getD, List.getElem?_map]
 rw [e]
 unfold sysA
 by_cases q : k < i.args.length
 ·rw [if_pos q, List.getD_eq_getElem?_getD, List.getElem?_eq_getElem q]; rfl
 rw [if_neg q, List.getElem?_eq_none (by omega)]; rfl
theorem read_30 {x : Fr} {k : Fk} (hf : FrIs P x k) {i : Ins} (hk : i.kind = 30) {vs : List SV} (hv : knL k.ρ i.args = some vs) : okS x.set (readsF i) = true ∧ ∀ j, sysA x i j = (vs.map SV.val).getD j 0#64 := by
 obtain ⟨a1, a2⟩ := knL_rd hf hv
 exact ⟨by rw [rd_g (by rw [hk]; exact ⟨rfl, rfl, rfl⟩)]; exact a2, fun j => by rw [sysA_map, a1]⟩
def wrS (P : Prog) (s : Sy) (x : Wd64) : Sy := { s with top := { s.top with a := atS P s.top + 1, ρ := ((insS P s.top).d.toNat, .wd x) :: s.top.ρ } }
theorem sys_write (hm : Is P h e w s m) (hk : (insS P s.top).kind = 30) (hi : (insS P s.top).imm = 1) {v0 v1 v2 : SV} (hv : knL s.top.ρ (insS P s.top).args = some [v0, v1, v2]) (hd : 0 ≤ (insS P s.top).d ∧ (insS P s.top).d < (fnS P s.top.f).regs)
    (hn : ¬ 2147483648#64 < v2.val) (hb : badMem m.c v1.val v2.val = false) {t : List UInt8} (ht : bytesAt m.mem v1.val v2.val.toNat = t) {x : Int} (hx : V.writeV (sI v0.val) t w = x) :
    ∃ m', (∀ N, runM RF (N + 1) m = runM RF N m') ∧ Is P h e (V.writeP (sI v0.val) t w) (wrS P s (wI x)) m' := by
 have hxa := (adv_is hm).1
 have hA := hm.top.go (atS P s.top)
 rw [← hxa] at hA
 obtain ⟨a1, a2⟩ := read_30 hA hk hv
 have hst : stepM RF (advM m) (insS P s.top) = some { advM m with x := goF (setD (advM m).x (insS P s.top).d (wI x)), w := V.writeP (sI v0.val) t w } := by
  rw [stepSy a1 hk]
  unfold sysM sysR
  rw [if_neg (by omega), if_neg (by omega), if_pos hi, a2, a2, a2]
  show (match some (wrM m.c m.mem m.w (sI v0.val) v1.val v2.val) with | none => none | some r => some { advM m with x := goF (setD (advM m).x (insS P s.top).d (wI r.n)), mem := r.mem, w := r.w }) = _
  unfold wrM
  rw [if_neg hn, if_neg (by rw [hb]; decide), ht, hm.w, hx]
  rfl
 refine run_w hm hst ⟨hm.prog, hm.heap, hm.strict, hm.ent, hm.st, rfl, ?_, hm.bl, hm.c⟩
 have h2 := hA.set hd.1 hd.2 (v := .wd (wI x)) rfl (atS P s.top + 1)
 have e1 : goF (setD (advM m).x (insS P s.top).d (wI x)) = { setD (advM m).x (insS P s.top).d (wI x) with at_ := ((atS P s.top + 1 : Nat) : Int) } := by
  unfold goF setD
  rw [hxa]
  rfl
 show FrIs P (goF _) _
 rw [e1]
 exact h2
structure Died (P : Prog) (w : V.PW) (v : Wd64) (m : Mc) : Prop where
 prog : m.c.prog = P
 st : m.c.st = 1
 code : m.c.code = codeOf v
 w : m.w = w
theorem sys_exit (hm : Is P h e w s m) (hk : (insS P s.top).kind = 30) (hi : (insS P s.top).imm = 60) {v : SV} (hv : knL s.top.ρ (insS P s.top).args = some [v]) : ∃ m', (∀ N, runM RF (N + 1) m = m') ∧ Died P w v.val m' := by
 have hxa := (adv_is hm).1
 have hA := hm.top.go (atS P s.top)
 rw [← hxa] at hA
 obtain ⟨a1, a2⟩ := read_30 hA hk hv
 have hst : stepM RF (advM m) (insS P s.top) = some { advM m with c := { m.c with st := 1, code := codeOf v.val } } := by
  rw [stepSy a1 hk]
  unfold sysM
  rw [if_pos hi, a2]
  rfl
 refine ⟨tickC { advM m with c := { m.c with st := 1, code := codeOf v.val } }, fun N => ?_, ⟨hm.prog, rfl, rfl, hm.w⟩⟩
 rw [runM, if_neg (fun q => q hm.st), (adv_is hm).2, hst]
 exact runM_stop (show (1 : Int) ≠ 0 by decide) N
end
/-! ### bytes of words -/
theorem le_lt (m : Mf) (a : Wd64) : ∀ n, n ≤ 8 → (leF m a n).toNat < 2 ^ (8 * n) ∧ (n < 8 → (leF m a (n + 1)).toNat = (leF m a n).toNat + 2 ^ (8 * n) * (m (a + wI (n : Int))).toNat) := by
 have key : ∀ n, n < 8 → (leF m a n).toNat < 2 ^ (8 * n) → (leF m a (n + 1)).toNat = (leF m a n).toNat + 2 ^ (8 * n) * (m (a + wI (n : Int))).toNat := fun n hn hl => by
  have hb : (m (a + wI (n : Int))).toNat < 256 := UInt8.toNat_lt _
  have h3 : 2 ^ (8 * (n + 1)) ≤ 2 ^ 64 := Nat.pow_le_pow_right (by decide) (by omega)
  have h4 : 2 ^ (8 * (n + 1)) = 256 * 2 ^ (8 * n) := by rw [show 8 * (n + 1) = 8 + 8 * n by omega, Nat.pow_add]
  have h5 : 0 < 2 ^ (8 * n) := Nat.pow_pos (by decide)
  have h6 := Nat.mul_lt_mul_of_pos_right hb h5
  rw [leF, BitVec.toNat_or, BitVec.toNat_shiftLeft, bw_nat, Nat.shiftLeft_eq, Nat.mod_eq_of_lt (by omega), Nat.or_comm, ← Nat.shiftLeft_eq, ← Nat.shiftLeft_add_eq_or_of_lt hl, Nat.shiftLeft_eq, Nat.mul_comm (2 ^ (8 * n)), Nat.add_comm]
 intro n
 induction n with
 | zero => exact fun _ => ⟨by rw [leF]; decide, fun h => key 0 h (by rw [leF]; decide)⟩
 | succ n ih =>
  intro hn
  obtain ⟨l1, l2⟩ := ih (by omega)
  have l3 := l2 (by omega)
  have hb : (m (a + wI (n : Int))).toNat < 256 := UInt8.toNat_lt _
  have h4 : 2 ^ (8 * (n + 1)) = 2 ^ (8 * n) * 256 := by rw [show 8 * (n + 1) = 8 * n + 8 by omega, Nat.pow_add]
  have h6 : 2 ^ (8 * n) * (m (a + wI (n : Int))).toNat ≤ 2 ^ (8 * n) * 255 := Nat.mul_le_mul_left _ (by omega)
  have h7 : (leF m a (n + 1)).toNat < 2 ^ (8 * (n + 1)) := by omega
  exact ⟨h7, fun h => key (n + 1) h h7⟩
theorem le_sum (m : Mf) (a : Wd64) : (leF m a 8).toNat = (m (a + wI ((0 : Nat) : Int))).toNat + 256 * (m (a + wI ((1 : Nat) : Int))).toNat + 65536 * (m (a + wI ((2 : Nat) : Int))).toNat + 16777216 * (m (a + wI ((3 : Nat) : Int))).toNat + 4294967296 * (m (a + wI ((4 : Nat) : Int))).toNat + 1099511627776 * (m (a + wI ((5 : Nat) : Int))).toNat + 281474976710656 * (m (a + wI ((6 : Nat) : Int))).toNat + 72057594037927936 * (m (a + wI ((7 : Nat) : Int))).toNat := by
 have h0 : (leF m a 1).toNat = (leF m a 0).toNat + 1 * (m (a + wI ((0 : Nat) : Int))).toNat := (le_lt m a 0 (by omega)).2 (by omega)
 have h1 : (leF m a 2).toNat = (leF m a 1).toNat + 256 * (m (a + wI ((1 : Nat) : Int))).toNat := (le_lt m a 1 (by omega)).2 (by omega)
 have h2 : (leF m a 3).toNat = (leF m a 2).toNat + 65536 * (m (a + wI ((2 : Nat) : Int))).toNat := (le_lt m a 2 (by omega)).2 (by omega)
 have h3 : (leF m a 4).toNat = (leF m a 3).toNat + 16777216 * (m (a + wI ((3 : Nat) : Int))).toNat := (le_lt m a 3 (by omega)).2 (by omega)
 have h4 : (leF m a 5).toNat = (leF m a 4).toNat + 4294967296 * (m (a + wI ((4 : Nat) : Int))).toNat := (le_lt m a 4 (by omega)).2 (by omega)
 have h5 : (leF m a 6).toNat = (leF m a 5).toNat + 1099511627776 * (m (a + wI ((5 : Nat) : Int))).toNat := (le_lt m a 5 (by omega)).2 (by omega)
 have h6 : (leF m a 7).toNat = (leF m a 6).toNat + 281474976710656 * (m (a + wI ((6 : Nat) : Int))).toNat := (le_lt m a 6 (by omega)).2 (by omega)
 have h7 : (leF m a 8).toNat = (leF m a 7).toNat + 72057594037927936 * (m (a + wI ((7 : Nat) : Int))).toNat := (le_lt m a 7 (by omega)).2 (by omega)
 have hz : (leF m a 0).toNat = 0 := by rw [leF]; rfl
 omega
theorem le_byte (m : Mf) (a x : Wd64) (h : leF m a 8 = x) (j : Nat) (hj : j < 8) : m (a + wI (j : Int)) = UInt8.ofNat (x.toNat / 2 ^ (8 * j) % 256) := by
 have hs := le_sum m a
 rw [h] at hs
 have hb : ∀ i : Nat, (m (a + wI (i : Int))).toNat < 256 := fun i => UInt8.toNat_lt _
 have b0 := hb 0; have b1 := hb 1; have b2 := hb 2; have b3 := hb 3; have b4 := hb 4; have b5 := hb 5; have b6 := hb 6; have b7 := hb 7
 apply UInt8.toNat_inj.1
 rw [UInt8.toNat_ofNat', hs]
 match j, hj with
 | 0, _ => omega
 | 1, _ => omega
 | 2, _ => omega
 | 3, _ => omega
 | 4, _ => omega
 | 5, _ => omega
 | 6, _ => omega
 | 7, _ => omega
 | n + 8, q => exact absurd q (by omega)
/-! ### out of memory -/
def msg : List UInt8 := [111, 117, 116, 32, 111, 102, 32, 109, 101, 109, 111, 114, 121]
theorem msg_at {c : Nat → Wd64} {m : Mf} (hc : Cells c m) (h48 : c 48 = 7863397576860792175#64) (h49 : c 49 = 521610947941#64) : bytesAt m 268435840#64 13 = msg := by
 have e1 : ∀ j : Nat, j < 8 → m (268435456#64 + wI ((8 * 48 : Nat) : Int) + wI (j : Int)) = UInt8.ofNat ((7863397576860792175#64 : Wd64).toNat / 2 ^ (8 * j) % 256) := fun j hj => le_byte m _ _ ((hc 48 (by decide)).trans h48) j hj
 have e2 : ∀ j : Nat, j < 8 → m (268435456#64 + wI ((8 * 49 : Nat) : Int) + wI (j : Int)) = UInt8.ofNat ((521610947941#64 : Wd64).toNat / 2 ^ (8 * j) % 256) := fun j hj => le_byte m _ _ ((hc 49 (by decide)).trans h49) j hj
 have f : ∀ k : Nat, k < 13 → m (268435840#64 + wI (k : Int)) = msg.getD k 0 := fun k hk => by
  match k, hk with
  | 0, _ => exact e1 0 (by decide)
  | 1, _ => exact e1 1 (by decide)
  | 2, _ => exact e1 2 (by decide)
  | 3, _ => exact e1 3 (by decide)
  | 4, _ => exact e1 4 (by decide)
  | 5, _ => exact e1 5 (by decide)
  | 6, _ => exact e1 6 (by decide)
  | 7, _ => exact e1 7 (by decide)
  | 8, _ => exact e2 0 (by decide)
  | 9, _ => exact e2 1 (by decide)
  | 10, _ => exact e2 2 (by decide)
  | 11, _ => exact e2 3 (by decide)
  | 12, _ => exact e2 4 (by decide)
  | n + 13, q => exact absurd q (by omega)
 show (List.range 13).map (fun (k : Nat) => m (268435840#64 + wI (k : Int))) = _
 show (List.range 13).map _ = (List.range 13).map (fun k => msg.getD k 0)
 exact List.map_congr_left fun k hk => f k (List.mem_range.1 hk)
def wFull : V.PW := ⟨[], [], V.opn0, [⟨2, [], msg⟩]⟩
theorem w_full : V.writeP (sI (SV.wd 2#64).val) msg w00 = wFull := by kernel_rfl
theorem v_full : V.writeV (sI (SV.wd 2#64).val) msg w00 = 13 := by kernel_rfl
theorem rp_full : V.RP 549755813888 wFull := by
 rw [← w_full]
 exact ((rp0 100).write _ _).mono (by decide)
structure AtSys (h : Wd64) (s : Sy) : Prop where
 k : (insS gcP s.top).kind = 30 ∧ (insS gcP s.top).imm = 1
 a : knL s.top.ρ (insS gcP s.top).args = some [.wd 2#64, .dt 384, .wd 13#64]
 d : 0 ≤ (insS gcP s.top).d ∧ (insS gcP s.top).d < (fnS gcP s.top.f).regs
 c : s.c 48 = 7863397576860792175#64 ∧ s.c 49 = 521610947941#64
 r : srun gcP h [] 1 (wrS gcP s (wI 13)) [] = some (symS (srun gcP h [] 1 (wrS gcP s (wI 13)) []), [])
 k2 : (insS gcP (symS (srun gcP h [] 1 (wrS gcP s (wI 13)) [])).top).kind = 30 ∧ (insS gcP (symS (srun gcP h [] 1 (wrS gcP s (wI 13)) [])).top).imm = 60
 a2 : knL (symS (srun gcP h [] 1 (wrS gcP s (wI 13)) [])).top.ρ (insS gcP (symS (srun gcP h [] 1 (wrS gcP s (wI 13)) [])).top).args = some [.wd 137#64]
theorem full_run {h : Wd64} {s : Sy} {m : Mc} (hm : Is gcP h true w00 s m) (hs : AtSys h s) : ∃ mR, (∀ N, 3 ≤ N → runM realF N m = mR) ∧ (∀ j, V.RP 549755813888 (runM realF j m).w) ∧ Died gcP wFull 137#64 mR := by
 have hb : badMem m.c (SV.dt 384).val (SV.wd 13#64).val = false := by
  unfold badMem thereC thereF
  rw [hm.prog, gc_z]
  rfl
 obtain ⟨m1, r1, i1⟩ := sys_write (RF := realF) hm hs.k.1 hs.k.2 hs.a hs.d (by decide) hb (msg_at hm.c hs.c.1 hs.c.2) v_full
 rw [w_full] at i1
 obtain ⟨m2, r2, i2⟩ := srun_ok (RF := realF) gc_z i1 hs.r (fun o q => by cases q)
 obtain ⟨mR, r3, d3⟩ := sys_exit (RF := realF) i2 hs.k2.1 hs.k2.2 hs.a2
 have hend : ∀ N, runM realF (N + 1 + 1 + 1) m = mR := fun N => by rw [r1, r2, r3]
 refine ⟨mR, fun N hN => by rw [show N = N - 3 + 1 + 1 + 1 by omega]; exact hend _, fun j => ?_, d3⟩
 match j with
 | 0 => rw [show (runM realF 0 m).w = m.w from rfl, hm.w]; exact rp00
 | 1 => rw [r1 0, show (runM realF 0 m1).w = m1.w from rfl, i1.w]; exact rp_full
 | 2 => rw [r1 1, srun_w gc_z i1 hs.r (fun o q => by cases q) 1 (by decide)]; exact rp_full
 | N + 3 => rw [hend N, d3.w]; exact rp_full
/-! ### gc.full -/
def fuS (h : Wd64) (c : Nat → Wd64) : Option (Sy × List Ob) := srun gcP h [] 9 ⟨⟨6, 0, [], 0⟩, [], c⟩ []
theorem fu_some (h : Wd64) (c : Nat → Wd64) : fuS h c = some (symS (fuS h c), []) := by kernel_rfl
theorem fu_at (h : Wd64) (c : Nat → Wd64) : AtSys h (symS (fuS h c)) := ⟨⟨by kernel_rfl, by kernel_rfl⟩, by kernel_rfl, ⟨of_decide_eq_true (by kernel_rfl), of_decide_eq_true (by kernel_rfl)⟩, ⟨by kernel_rfl, by kernel_rfl⟩, by kernel_rfl, ⟨by kernel_rfl, by kernel_rfl⟩, by kernel_rfl⟩
theorem fullG_run {h : Wd64} {m : Mc} {c : Nat → Wd64} (hp : m.c.prog = gcP) (hh : m.c.heap = h) (hs : m.c.strict = false) (hw : m.w = w00) (hc : Cells c m.mem) :
    ∃ mR, (∀ N, 12 ≤ N → runM realF N (entM m 6 []) = mR) ∧ (∀ j, V.RP 549755813888 (runM realF j (entM m 6 [])).w) ∧ Died gcP wFull 137#64 mR := by
 have hi : Is gcP h true w00 ⟨⟨6, 0, [], 0⟩, [], c⟩ (entM m 6 []) := ent_is (vs := []) hp hh hs hw hc (Nat.zero_le _)
 have ho : ∀ o ∈ ([] : List Ob), o.ok := fun o q => by cases q
 obtain ⟨m1, r1, i1⟩ := srun_ok (RF := realF) gc_z hi (fu_some h c) ho
 obtain ⟨mR, r2, r3, d⟩ := full_run i1 (fu_at h c)
 refine ⟨mR, fun N hN => by rw [show N = (N - 9) + 9 by omega, r1]; exact r2 _ (by omega), fun j => ?_, d⟩
 by_cases q : j ≤ 9
 ·rw [srun_w gc_z hi (fu_some h c) ho j q]; exact rp00
 rw [show j = (j - 9) + 9 by omega, r1]; exact r3 _
/-! ### gc.alloc, of too much -/
def alS (h n : Wd64) (c : Nat → Wd64) : Option (Sy × List Ob) := srun gcP h [true, false, true, true, false, false, false, false, false, false, false, false, false, true, true, false] 200 ⟨⟨2, 0, argsR 0 [.wd n], 0⟩, [], c⟩ []
def alO (n : Wd64) (c : Nat → Wd64) : List Ob := [⟨6, n, c 38 + c 47 - c 38, false⟩, ⟨6, c 38, c 38, true⟩, ⟨6, c 39, c 39, true⟩, ⟨1, c 19 &&& 1#64, 0#64, false⟩, ⟨1, c 17 &&& 1#64, 0#64, false⟩, ⟨1, c 15 &&& 1#64, 0#64, false⟩, ⟨1, c 13 &&& 1#64, 0#64, false⟩, ⟨1, c 11 &&& 1#64, 0#64, false⟩, ⟨1, c 9 &&& 1#64, 0#64, false⟩, ⟨1, c 7 &&& 1#64, 0#64, false⟩, ⟨1, c 5 &&& 1#64, 0#64, false⟩, ⟨1, c 3 &&& 1#64, 0#64, false⟩, ⟨6, c 0, c 1, true⟩, ⟨6, c 40, c 39, true⟩, ⟨6, n, c 37 - c 36, false⟩, ⟨5, c 34 - c 32, n, true⟩]
theorem al_some (h n : Wd64) (c : Nat → Wd64) : alS h n c = some (symS (alS h n c), alO n c) := by kernel_rfl
theorem al_at (h n : Wd64) (c : Nat → Wd64) : AtSys h (symS (alS h n c)) := ⟨⟨by kernel_rfl, by kernel_rfl⟩, by kernel_rfl, ⟨of_decide_eq_true (by kernel_rfl), of_decide_eq_true (by kernel_rfl)⟩, ⟨by kernel_rfl, by kernel_rfl⟩, by kernel_rfl, ⟨by kernel_rfl, by kernel_rfl⟩, by kernel_rfl⟩
theorem alG_run {h n : Wd64} {m : Mc} {c : Nat → Wd64} (hp : m.c.prog = gcP) (hh : m.c.heap = h) (hs : m.c.strict = false) (hw : m.w = w00) (hc : Cells c m.mem) (ho : ∀ o ∈ alO n c, o.ok) :
    ∃ mR, (∀ N, 203 ≤ N → runM realF N (entM m 2 [n]) = mR) ∧ (∀ j, V.RP 549755813888 (runM realF j (entM m 2 [n])).w) ∧ Died gcP wFull 137#64 mR := by
 have hi : Is gcP h true w00 ⟨⟨2, 0, argsR 0 [.wd n], 0⟩, [], c⟩ (entM m 2 [n]) := ent_is (vs := [.wd n]) hp hh hs hw hc (of_decide_eq_true (by kernel_rfl))
 obtain ⟨m1, r1, i1⟩ := srun_ok (RF := realF) gc_z hi (al_some h n c) ho
 obtain ⟨mR, r2, r3, d⟩ := full_run i1 (al_at h n c)
 refine ⟨mR, fun N hN => by rw [show N = (N - 200) + 200 by omega, r1]; exact r2 _ (by omega), fun j => ?_, d⟩
 by_cases q : j ≤ 200
 ·rw [srun_w gc_z hi (al_some h n c) ho j q]; exact rp00
 rw [show j = (j - 200) + 200 by omega, r1]; exact r3 _
/-! ### behind gc.start -/
theorem st_more (h : Wd64) (b : Bool) (c : Nat → Wd64) : (symS (stS h b c)).c 32 = 1073741824#64 ∧ (symS (stS h b c)).c 34 = 1073741824#64 + prt h * 2#64 ∧ (symS (stS h b c)).c 36 = 1073741824#64 + prt h * 2#64 ∧ (symS (stS h b c)).c 37 = 1073741824#64 + prt h * 2#64 + prt h * 4#64 ∧ (symS (stS h b c)).c 38 = 1073741824#64 + prt h * 2#64 + prt h * 4#64 ∧ (symS (stS h b c)).c 39 = 1073741824#64 + prt h * 2#64 + prt h * 4#64 + prt h * 4#64 ∧ (symS (stS h b c)).c 40 = 1073741824#64 + prt h * 2#64 + prt h * 4#64 + prt h * 4#64 ∧ (symS (stS h b c)).c 47 = prt h * 4#64 := by
 cases b <;> exact ⟨by kernel_rfl, by kernel_rfl, by kernel_rfl, by kernel_rfl, by kernel_rfl, by kernel_rfl, by kernel_rfl, by kernel_rfl⟩
theorem ule_refl (a : Wd64) : holdsF 6 a a = true := by
 unfold holdsF
 rw [if_neg (by decide), if_neg (by decide), if_neg (by decide), if_neg (by decide), if_neg (by decide)]
 exact decide_eq_true (BitVec.le_refl a)
theorem ule_no {a b : Wd64} (h : b.toNat < a.toNat) : holdsF 6 a b = false := by
 unfold holdsF
 rw [if_neg (by decide), if_neg (by decide), if_neg (by decide), if_neg (by decide), if_neg (by decide)]
 exact decide_eq_false (by rw [BitVec.le_def]; omega)
theorem ult_yes {a b : Wd64} (h : a.toNat < b.toNat) : holdsF 5 a b = true := by
 unfold holdsF
 rw [if_neg (by decide), if_neg (by decide), if_neg (by decide), if_neg (by decide), if_pos rfl]
 exact decide_eq_true (by rw [BitVec.lt_def]; exact h)
theorem add_sub_l (x y : Wd64) : x + y - x = y := by rw [BitVec.add_comm]; exact BitVec.add_sub_cancel _ _
theorem al_obs {h n : Wd64} (hh : h.toNat ≤ 1099511627776) (hn : h.toNat < n.toNat) (b : Bool) (c0 : Nat → Wd64) : ∀ o ∈ alO n (symS (stS h b c0)).c, o.ok := by
 obtain ⟨g0, g1, g2, g3, g4⟩ := st_cells h b c0
 obtain ⟨f32, f34, f36, f37, f38, f39, f40, f47⟩ := st_more h b c0
 have e := heap_n hh
 intro o ho
 unfold alO at ho
 simp only [List.mem_cons, List.not_mem_nil, or_false] at ho
 rcases ho with rfl | rfl | rfl | rfl | rfl | rfl | rfl | rfl | rfl | rfl | rfl | rfl | rfl | rfl | rfl | rfl
 ·refine ule_no ?_
  rw [f38, f47, add_sub_l]
  simp only [BitVec.toNat_mul, BitVec.toNat_ofNat, e]
  omega
 ·exact ule_refl _
 ·exact ule_refl _
 ·exact (congrArg (fun z => holdsF 1 (z &&& 1#64) 0#64) (g4 7 (by decide)).2).trans rfl
 ·exact (congrArg (fun z => holdsF 1 (z &&& 1#64) 0#64) (g4 6 (by decide)).2).trans rfl
 ·exact (congrArg (fun z => holdsF 1 (z &&& 1#64) 0#64) (g4 5 (by decide)).2).trans rfl
 ·exact (congrArg (fun z => holdsF 1 (z &&& 1#64) 0#64) (g4 4 (by decide)).2).trans rfl
 ·exact (congrArg (fun z => holdsF 1 (z &&& 1#64) 0#64) (g4 3 (by decide)).2).trans rfl
 ·exact (congrArg (fun z => holdsF 1 (z &&& 1#64) 0#64) (g4 2 (by decide)).2).trans rfl
 ·exact (congrArg (fun z => holdsF 1 (z &&& 1#64) 0#64) (g4 1 (by decide)).2).trans rfl
 ·exact (congrArg (fun z => holdsF 1 (z &&& 1#64) 0#64) (g4 0 (by decide)).2).trans rfl
 ·exact (congrArg (fun z => holdsF 1 (z &&& 1#64) 0#64) g3).trans rfl
 ·show holdsF 6 _ _ = true
  dsimp only
  rw [g0, g1]
  exact ule_refl _
 ·show holdsF 6 _ _ = true
  dsimp only
  rw [f39, f40]
  exact ule_refl _
 ·refine ule_no ?_
  rw [f36, f37, add_sub_l]
  simp only [BitVec.toNat_mul, BitVec.toNat_ofNat, e]
  omega
 refine ult_yes ?_
 rw [f32, f34, add_sub_l]
 simp only [BitVec.toNat_mul, BitVec.toNat_ofNat, e]
 omega
end Go.Proofs.YtpgbpdnmjeoeoaaGreat.G

namespace Go.Proofs.YtpgbpdnmjeoeoaaGreat.G
open Go Go.RowKit

def pickF (c : Int) (n : Int) : Int := (if c < 0 then -(c + 1) else c) % n
theorem pick_in (c : Int) {n : Int} (h : 0 < n) : 0 ≤ pickF c n ∧ pickF c n < n := ⟨Int.emod_nonneg _ (by omega), Int.emod_lt_of_pos _ h⟩
def sizeG (n : Int) : Wd64 := 65536#64 + wI (pickF n 40000)
theorem size_n (n : Int) : 65536 ≤ (sizeG n).toNat ∧ (sizeG n).toNat < 105536 := by
 obtain ⟨h0, h1⟩ := pick_in n (n := 40000) (by decide)
 have h := wI_nat (pickF n 40000)
 rw [wrap_u64] at h
 unfold sizeG
 rw [BitVec.toNat_add, show (65536#64 : Wd64).toNat = 65536 from rfl]
 omega
set_option maxHeartbeats 400000 in
theorem pick12 (c n : Int) (h0 : -9223372036854775808 ≤ c) (h1 : c ≤ 9223372036854775807) (h2 : 0 < n) :
    ACalls Tryz.prog 12 [zi c, zi n] [] (fun t S => t = zi (pickF c n)) := by
 refine ACalls.intro Tryz.func12 rfl Tryz.ntmps12 nB rfl fun X w0 => ?_
 refine ra ?_
 refine AW.seq ?_
 refine rs (ym ?_)
 refine Y1 (Yv.lss rfl eV eV) (nl ?_)
 refine AW.cond rfl (fun h0t => ?_) (fun h0f => ?_)
 ·try replace h0t := odt h0t
  refine AW.region ?_
  refine ym ?_
  refine Y1 (Yv.addN_i64 rfl eV eV (fun hg => by omega)) ?_
  refine Y1 (Yv.neg rfl eV) ?_
  have e9 : IntKind.i64.wrap (0 - (c + 1)) = -(c + 1) := by rw [IntWalk.i64_in _ (by omega)]; omega
  rw [e9]
  refine ya ?_
  refine rs (ym ?_)
  refine ym ?_
  refine Y1 (Yv.remN rfl eV eV (fun hg => by omega)) ?_
  refine ya ?_
  refine AW.ret (retI (.tmp rfl .nil) ?_)
  unfold pickF; rw [if_pos h0t]; rfl
 try replace h0f := odf h0f
 refine AW.skip ?_
 refine rs (ym ?_)
 refine ym ?_
 refine Y1 (Yv.remN rfl eV eV (fun hg => by omega)) ?_
 refine ya ?_
 refine AW.ret (retI (.tmp rfl .nil) ?_)
 unfold pickF; rw [if_neg h0f]; rfl

set_option maxHeartbeats 400000 in
theorem size11 (n : Int) (h0 : -9223372036854775808 ≤ n) (h1 : n ≤ 9223372036854775807) :
    ACalls Tryz.prog 11 [zi n] [] (fun t S => t = zw (sizeG n)) := by
 refine ACalls.intro Tryz.func11 rfl Tryz.ntmps11 nB rfl fun X w0 => ?_
 refine ra ?_
 refine rs (ym ?_)
 refine AWL.callT rfl rfl (B rfl) rfl ce_12 (E rfl rfl) (evsC (E rfl rfl) (evsC (E rfl rfl) evs0)) (pick12 n 40000 h0 h1 (by decide)) ?_
 rintro t4 S4 rfl
 refine Y1 (Yv.convW rfl Tryz.underlying3 kd_22 eV) ?_
 refine Y1 (Yv.addW (a := 65536#64) rfl eV eV) ?_
 refine ya ?_
 refine AW.ret (retI (.tmp rfl .nil) ?_)
 rfl

set_option maxHeartbeats 4000000 in
theorem full17 (s b : Nat) (x : PS) (ob : Bool) (cl r0 r1 r2 : T) (tA : Option Addr) (tc : Nat) :
    ACalls Tryz.prog 17 [pv s] [Ent.box s 75 (psD { x with st := 1, code := 137, w := .v (.pointer (some ⟨b, 0, none⟩)) } ob cl), Ent.box b 84 [r0, r1, r2, .v (.slice tA 1 tc)], Ent.row tA 1 tc 86 3 [zi 2, sv [], sv msg]] (fun t S => t = bv true ∧ S = [Ent.box s 75 (psD { x with st := 1, code := 137, w := .v (.pointer (some ⟨b, 0, none⟩)) } ob cl), Ent.box b 84 [r0, r1, r2, .v (.slice tA 1 tc)], Ent.row tA 1 tc 86 3 [zi 2, sv [], sv msg]]) := by
 refine ACalls.intro Tryz.func17 rfl Tryz.ntmps17 nB rfl fun X w0 => ?_
 refine ra ?_
 refine rs (ym ?_)
 refine Y1 (Yv.nilChk rfl eV) ?_
 refine yf fo_75_8 ?_
 refine yl ag_3 0 ?_
 refine Y1 (Yv.eql rfl eV eV) ?_
 refine ym ?_
 refine gT (Yv.move rfl eV) ?_
 refine gT (Yv.nilChk rfl (Eg rfl rfl id)) ?_
 refine gT (Yv.fieldBox rfl fo_75_10 (Eg rfl rfl id)) ?_
 refine gT (Yv.loadBox rfl ag_3 (i := 0) rfl (Eg rfl rfl id) rfl) ?_
 refine gT (Yv.eql rfl (Eg rfl rfl id) eV) ?_
 refine Y1 (Yv.pickAnd rfl eV (Eg rfl rfl id)) ?_
 refine ym ?_
 refine gT (Yv.move rfl eV) ?_
 refine gT (Yv.nilChk rfl (Eg rfl rfl id)) ?_
 refine gT (Yv.fieldBox rfl fo_75_4 (Eg rfl rfl id)) ?_
 refine gT (Yv.loadBox rfl ag_60 (i := 0) rfl (Eg rfl rfl id) rfl) ?_
 refine gT (Yv.nilChk rfl (Eg rfl rfl id)) ?_
 refine gT (Yv.fieldBox rfl fo_84_3 (Eg rfl rfl id)) ?_
 refine gT (Yv.loadBox rfl ag_82 (i := 1) rfl (Eg rfl rfl id) rfl) ?_
 refine gT (Yv.lenV rfl so_82 (Eg rfl rfl id)) ?_
 refine gT (Yv.eql rfl (Eg rfl rfl id) eV) ?_
 refine Y1 (Yv.pickAnd rfl eV (Eg rfl rfl id)) ?_
 refine ym ?_
 refine gT (Yv.move rfl eV) ?_
 refine gT (Yv.nilChk rfl (Eg rfl rfl id)) ?_
 refine gT (Yv.fieldBox rfl fo_75_4 (Eg rfl rfl id)) ?_
 refine gT (Yv.loadBox rfl ag_60 (i := 0) rfl (Eg rfl rfl id) rfl) ?_
 refine gT (Yv.nilChk rfl (Eg rfl rfl id)) ?_
 refine gT (Yv.fieldBox rfl fo_84_3 (Eg rfl rfl id)) ?_
 refine gT (Yv.loadBox rfl ag_82 (i := 1) rfl (Eg rfl rfl id) rfl) ?_
 refine gT (Yv.indexRow (j := 0) rfl ss_82 (i := 2) rfl (E rfl rfl) (Eg rfl rfl id) (fun hg => ⟨rfl, by decide⟩)) ?_
 refine gT (Yv.loadEpA rfl ag_86 (i := 2) rfl (Eg rfl rfl id) (fun _ => ⟨rfl, rfl⟩)) ?_
 refine gT (Yv.buildS rfl sh_86 (evpC eV (evpC eV evp0)) (fun _ => rfl)) ?_
 refine gT (Yv.eqlA rfl fl_86 (Eg rfl rfl id) (Eg rfl rfl id) rfl rfl rfl) ?_
 refine Y1 (Yv.pickAnd rfl eV (Eg rfl rfl id)) ?_
 refine ya ?_
 refine AW.ret (retI (.tmp rfl .nil) ?_)
 exact ⟨rfl, rfl⟩

end Go.Proofs.YtpgbpdnmjeoeoaaGreat.G

namespace Go.Proofs.YtpgbpdnmjeoeoaaGreat.G
open Go Go.RowKit B
set_option maxRecDepth 100000
def nmAlloc : List UInt8 := [103, 99, 46, 97, 108, 108, 111, 99]
def nmFull : List UInt8 := [103, 99, 46, 102, 117, 108, 108]
def nameNo (n : Nat) (nm : List UInt8) : Bool := (List.range n).all fun j => !decide ((gcP.funs.getD j default).name = nm)
theorem name_no {n : Nat} {nm : List UInt8} (h : nameNo n nm = true) : ∀ j, j < n → (gcP.funs.getD j default).name ≠ nm := fun j hj e => by
 have := List.all_eq_true.1 h j (List.mem_range.2 hj)
 rw [decide_eq_true e] at this
 cases this
theorem codeOf137 : codeOf 137#64 = 137 := by decide
theorem w_end {m mR : Mc} (h : DEnd m mR) : m.w = mR.w := by rcases h with rfl | ⟨_, at_, rfl⟩ <;> rfl
def Gone (m : Mc) (q : DQ) : Prop := m.c.st = 1 ∧ m.c.code = 137 ∧ q.ds.trace = [⟨2, [], msg⟩]
theorem Gone.of {m mR : Mc} {q : DQ} (hd : DEnd m mR) (h : Died gcP wFull 137#64 mR) (hq : DRel m q) : Gone m q := by
 refine ⟨by rw [c_end hd]; exact h.st, by rw [c_end hd]; exact h.code.trans codeOf137, ?_⟩
 have := hq.w.trace
 rw [w_end hd, h.w] at this
 exact this
theorem perm_full {a r b r0 r1 t : Ent} {F M fs X : St} : (([a, r] ++ F) ++ ((M ++ (b :: r0 :: r1 :: t :: fs)) ++ X)).Perm ([a, b, t] ++ ((r :: F) ++ ((M ++ (r0 :: r1 :: fs)) ++ X))) := by
 show (a :: (r :: F ++ ((M ++ (b :: r0 :: r1 :: t :: fs)) ++ X))).Perm (a :: b :: t :: ((r :: F) ++ ((M ++ (r0 :: r1 :: fs)) ++ X)))
 refine List.Perm.cons a ?_
 refine List.Perm.trans (l₂ := (r :: F) ++ (b :: t :: ((M ++ (r0 :: r1 :: fs)) ++ X))) (List.Perm.append_left (r :: F) ?_) ?_
 ·show ((M ++ (b :: r0 :: r1 :: t :: fs)) ++ X).Perm ((b :: t :: (M ++ (r0 :: r1 :: fs))) ++ X)
  refine List.Perm.append_right X ?_
  refine List.perm_middle.trans (List.Perm.cons b ?_)
  refine List.Perm.trans (List.Perm.append_left M (t₂ := t :: r0 :: r1 :: fs) ?_) List.perm_middle
  exact (List.perm_middle (l₁ := [r0, r1]) (l₂ := fs) (a := t))
 exact List.perm_middle.trans (List.Perm.cons b List.perm_middle)
theorem full_dp {L : DLay} {m : Mc} {q : DQ} (h : Gone m q) : ACalls Tryz.prog 17 [.v (.pointer (some ⟨L.s, 0, none⟩))] (DP L m q) (fun t S => t = bv true ∧ S = DP L m q) := by
 obtain ⟨h1, h2, h3⟩ := h
 have k := full17 L.s L.db (psLD L m.c) q.ob (.v (.slice (some ⟨q.g, 0, none⟩) (q.K.length + 1) q.c)) (.v (.slice q.ds.lA q.ds.files.length q.ds.lc)) (sv q.ds.stdin) (.v (.slice q.ds.dA q.ds.opn.length q.ds.dc)) q.ds.tA q.ds.tc
 have e1 : ({ psLD L m.c with st := 1, code := 137, w := .v (.pointer (some ⟨L.db, 0, none⟩)) } : PS) = psLD L m.c := by
  unfold psLD psOf; rw [h1, h2]; rfl
 rw [e1] at k
 have e2 : q.ds.trace.length = 1 := by rw [h3]; rfl
 have e3 : q.ds.trace.flatMap V.evCells = [zi 2, sv [], sv msg] := by rw [h3]; rfl
 obtain ⟨F, hF⟩ : ∃ F, (DP L m q).Perm ([Ent.box L.s 75 (psD (psLD L m.c) q.ob (.v (.slice (some ⟨q.g, 0, none⟩) (q.K.length + 1) q.c))), Ent.box L.db 84 [.v (.slice q.ds.lA q.ds.files.length q.ds.lc), sv q.ds.stdin, .v (.slice q.ds.dA q.ds.opn.length q.ds.dc), .v (.slice q.ds.tA 1 q.ds.tc)], Ent.row q.ds.tA 1 q.ds.tc 86 3 [zi 2, sv [], sv msg]] ++ F) := by
  unfold DP p7 memD V.DSt V.dCells
  rw [e2, e3]
  exact ⟨_, perm_full⟩
 exact ACalls.keepIn F k hF
section
variable {L : DLay} {m2 mR : Mc} {q2 : DQ} {y n : Wd64}
theorem al_dp (hbs : L.bs.length = gcP.funs.length) (hde : DEnd m2 mR) (hRe : Ended gcP y w00 (symS (stS y (smallB y) (fun _ => 0#64))).c 1#64 mR) (hq2 : DRel m2 q2) (hs2 : 0 ≤ m2.c.steps ∧ m2.c.steps ≤ 8000000000000) (hy : y.toNat ≤ 1099511627776) (hn : y.toNat < n.toNat) :
    ACalls Tryz.prog 13 [.v (.pointer (some ⟨L.s, 0, none⟩)), sv nmAlloc, .sl 1 ([n].map zw)] (DP L m2 q2) (fun t S => ∃ x m3 q3, t = .tup [zw x, bv false] ∧ Gone m3 q3 ∧ S = DP L m3 q3) := by
 have hpr : m2.c.prog = gcP := by rw [c_end hde]; exact hRe.prog
 have hh : m2.c.heap = y := by rw [c_end hde]; exact hRe.heap
 obtain ⟨mT, r1, r2, d⟩ := alG_run hRe.prog hRe.heap hRe.strict hRe.w hRe.c (al_obs hy hn (smallB y) (fun _ => 0#64))
 refine (Call13 L gcP gc_ok gc_in m2 q2 hpr hq2 hbs nmAlloc [n] 2 (by rw [gc_len]; decide) (by kernel_rfl) (name_no (by kernel_rfl)) (by kernel_rfl) (Nat.le_of_ble_eq_true rfl) (by rw [hh]; exact hy) ⟨hs2.1, by omega⟩ (fun j => by rw [entM_end hde]; exact r2 j)).mono ?_
 rintro t S ⟨m3, q3, rfl, h3, hq3, rfl⟩
 rw [entM_end hde, r1 _ (by unfold mostF; omega)] at h3
 have hg := Gone.of h3 d hq3
 exact ⟨m3.c.ans, m3, q3, by rw [hg.1]; rfl, hg, rfl⟩
theorem fu_dp (hbs : L.bs.length = gcP.funs.length) (hde : DEnd m2 mR) (hRe : Ended gcP y w00 (symS (stS y (smallB y) (fun _ => 0#64))).c 1#64 mR) (hq2 : DRel m2 q2) (hs2 : 0 ≤ m2.c.steps ∧ m2.c.steps ≤ 8000000000000) (hy : y.toNat ≤ 1099511627776) :
    ACalls Tryz.prog 13 [.v (.pointer (some ⟨L.s, 0, none⟩)), sv nmFull, .v (.slice none 0 0)] (DP L m2 q2) (fun t S => ∃ x m3 q3, t = .tup [zw x, bv false] ∧ Gone m3 q3 ∧ S = DP L m3 q3) := by
 have hpr : m2.c.prog = gcP := by rw [c_end hde]; exact hRe.prog
 have hh : m2.c.heap = y := by rw [c_end hde]; exact hRe.heap
 obtain ⟨mT, r1, r2, d⟩ := fullG_run hRe.prog hRe.heap hRe.strict hRe.w hRe.c
 refine ((Call13 L gcP gc_ok gc_in m2 q2 hpr hq2 hbs nmFull [] 6 (by rw [gc_len]; decide) (by kernel_rfl) (name_no (by kernel_rfl)) (by kernel_rfl) (Nat.le_of_ble_eq_true rfl) (by rw [hh]; exact hy) ⟨hs2.1, by omega⟩ (fun j => by rw [entM_end hde]; exact r2 j)).le (.cons .refl (.cons .refl (.cons nilW .refl)))).mono ?_
 rintro t S ⟨m3, q3, rfl, h3, hq3, rfl⟩
 rw [entM_end hde, r1 _ (by unfold mostF; omega)] at h3
 have hg := Gone.of h3 d hq3
 exact ⟨m3.c.ans, m3, q3, by rw [hg.1]; rfl, hg, rfl⟩
end
def askN (y mo : Wd64) : Wd64 := ((y / 8#64) * 8#64 + 8#64) + (mo % 1073741824#64 / 8#64) * 8#64
theorem ask_n {y mo : Wd64} (hy : y.toNat < 105536) : y.toNat < (askN y mo).toNat := by
 unfold askN
 have e1 : (y / 8#64).toNat = y.toNat / 8 := by rw [BitVec.toNat_udiv]; rfl
 have e2 : (mo % 1073741824#64 / 8#64).toNat = mo.toNat % 1073741824 / 8 := by rw [BitVec.toNat_udiv, BitVec.toNat_umod]; rfl
 have e3 : (8#64 : Wd64).toNat = 8 := rfl
 rw [BitVec.toNat_add, BitVec.toNat_add, BitVec.toNat_mul, BitVec.toNat_mul, e1, e2, e3]
 omega
end Go.Proofs.YtpgbpdnmjeoeoaaGreat.G

namespace Go.Proofs.YtpgbpdnmjeoeoaaGreat.G
open Go Go.RowKit

open B
set_option maxRecDepth 100000
set_option maxHeartbeats 8000000 in
theorem GcrtEnds6 (n : Int) (h0 : -9223372036854775808 ≤ n) (h1 : n ≤ 9223372036854775807) (mo : Wd64) :
    ACalls Tryz.prog 6 [zi n, zw mo] [] (fun t S => t = bv true) := by
 have hz := size_n n
 have hy : (sizeG n).toNat ≤ 1099511627776 := by omega
 refine ACalls.intro Tryz.func6 rfl Tryz.ntmps6 nB rfl fun X w0 => ?_
 refine ra ?_
 refine rs (ym ?_)
 refine AWL.callT rfl rfl (B rfl) rfl ce_11 (E rfl rfl) (evsC (E rfl rfl) evs0) (size11 n h0 h1) ?_
 rintro t14 S14 rfl
 refine ya ?_
 refine rs (ym ?_)
 refine cA ce_7 rfl rfl rfl (begun7 (sizeG n) hy) ?_
 rintro t16 S16 ⟨L, m2, q2, mR, rfl, hbs, hde, hRe, hq2, hst2, rfl⟩
 refine ya ?_
 refine rs (ym ?_)
 refine AWL.callE rfl rfl (B rfl) rfl ce_7 (E rfl rfl) (evsC (E rfl rfl) evs0) (F1 := (DP L m2 q2)) (S1 := []) (List.append_nil _).symm (begun7 (sizeG n) hy) ?_
 rintro t18 S18 ⟨L2, m3, q3, mR2, rfl, hbs2, hde2, hRe2, hq3, hst3, rfl⟩
 refine ya ?_
 refine AW.seq ?_
 refine rs (ym ?_)
 refine Y1 (Yv.eqlNilP rfl pn_23 eV) ?_
 refine ym ?_
 refine gF (Yv.move rfl eV) ?_
 refine gF (Yv.eqlNilP rfl pn_23 (Eg rfl rfl id)) ?_
 refine Y1 (Yv.pickOr (t := .const (.bool true)) rfl eV (Eg rfl rfl id)) (nl ?_)
 refine AW.cond rfl (fun h0t => ?_) (fun h0f => ?_)
 ·try replace h0t := odt h0t
  cases h0t
 try replace h0f := odf h0f
 refine AW.skip ?_
 refine rs (ym ?_)
 refine Y1 (Yv.quoW (b := 8#64) rfl (E rfl rfl) (E rfl rfl) (by decide)) ?_
 refine Y1 (Yv.mulW (b := 8#64) rfl eV eV) ?_
 refine Y1 (Yv.addW (b := 8#64) rfl eV eV) ?_
 refine ym ?_
 refine Y1 (Yv.remW (b := 1073741824#64) rfl (E rfl rfl) (E rfl rfl) (by decide)) ?_
 refine Y1 (Yv.quoW (b := 8#64) rfl (E rfl rfl) (E rfl rfl) (by decide)) ?_
 refine Y1 (Yv.mulW (b := 8#64) rfl eV eV) ?_
 refine Y1 (Yv.addW rfl eV eV) ?_
 refine ya ?_
 refine rs (ym ?_)
 refine ym ?_
 refine AWL.buildSlice1 rfl rfl (B rfl) rfl el_32 rfl (evsC (E rfl rfl) evs0) nB rfl rfl ?_
 refine AWL.callF rfl rfl (B rfl) rfl ce_13 (E rfl rfl) (evsC (E rfl rfl) (evsC (E rfl rfl) (evsC (E rfl rfl) evs0))) (F1 := []) (S1 := (DP L m2 q2)) (F2 := (DP L2 m3 q3)) rfl (al_dp hbs hde hRe hq2 hst2 hy (ask_n (mo := mo) hz.2)) ?_
 rintro t38 S38 ⟨xa, m4, q4, rfl, hg4, rfl⟩
 refine ym ?_
 refine Y1 (Yv.extract rfl eV rfl) ?_
 refine Y1 (Yv.extract rfl eV rfl) ?_
 refine Y1 (Yv.assign rfl eV) ?_
 refine ya ?_
 refine rs (ym ?_)
 refine cE ce_13 (DP L m4 q4) (DP L2 m3 q3) rfl rfl rfl (fu_dp hbs2 hde2 hRe2 hq3 hst3 hy) ?_
 rintro t43 S43 ⟨xb, m5, q5, rfl, hg5, rfl⟩
 refine ym ?_
 refine Y1 (Yv.extract rfl eV rfl) ?_
 refine Y1 (Yv.extract rfl eV rfl) ?_
 refine Y1 (Yv.assign rfl eV) ?_
 refine ya ?_
 refine rs (ym ?_)
 refine Y1 (Yv.not rfl eV) ?_
 refine ym ?_
 refine gT (Yv.move rfl eV) ?_
 refine AWL.unguard rfl rfl rfl rfl ?_
 refine AWL.callF rfl rfl (B rfl) rfl ce_17 (E rfl rfl) (evsC (Eg rfl rfl (by simp_all)) evs0) (F1 := []) (S1 := (DP L m4 q4)) (F2 := (DP L2 m5 q5)) rfl (full_dp hg4) ?_
 rintro t50 S50 ⟨rfl, rfl⟩
 refine Y1 (Yv.pickAnd rfl eV eV) ?_
 refine ym ?_
 refine gT (Yv.move rfl eV) ?_
 refine gT (Yv.not rfl (Eg rfl rfl id)) ?_
 refine Y1 (Yv.pickAnd rfl eV (Eg rfl rfl id)) ?_
 refine ym ?_
 refine gT (Yv.move rfl eV) ?_
 refine AWL.unguard rfl rfl rfl rfl ?_
 refine AWL.callE rfl rfl (B rfl) rfl ce_17 (E rfl rfl) (evsC (Eg rfl rfl (by simp_all)) evs0) (F1 := (DP L m4 q4)) (S1 := (DP L2 m5 q5)) rfl (full_dp hg5) ?_
 rintro t58 S58 ⟨rfl, rfl⟩
 refine Y1 (Yv.pickAnd rfl eV eV) ?_
 refine ya ?_
 refine AW.ret (retI (.tmp rfl .nil) ?_)
 rfl

end Go.Proofs.YtpgbpdnmjeoeoaaGreat.G

namespace Go.Proofs.YtpgbpdnmjeoeoaaGreat
open Go Go.RowKit Go.ChangeShapes Go.WideShapes Go.ChangeAt
theorem laidOut : laidOutB Tryz.prog = true := by kernel_rfl
end Go.Proofs.YtpgbpdnmjeoeoaaGreat
namespace Go.Proofs.YtpgbpdnmjeoeoaaGreat.G
open Go.ChangeShapes Go.WideShapes Go.ChangeAt Go Go.RowKit
section
variable {H : Type} {enc : TypeId × Value → H} {w : World} {base b0 : Nat} {spare : Nat → Bool} {held : Bool} {v : Value} {d : DataW H} {p : List MemPlace}
theorem int_u64 {z : Int} (h : (Lit.int .u64 z).wf = true) : 0 ≤ z ∧ z ≤ 18446744073709551615 := by simpa [Lit.wf, IntKind.min, IntKind.max, IntKind.signed, IntKind.bits] using h
set_option maxRecDepth 100000 in
theorem open_u64 (hv : Value.okWide Tryz.prog w .any b0 22 v) (e : DataW.Trod enc Tryz.prog w base spare held 22 v d p) : ∃ a : Wd64, VRep w [] (zw a) v := by
 obtain ⟨z, rfl⟩ := okWide_int Tryz.underlying22 hv
 obtain ⟨fuel, hf⟩ := e
 obtain ⟨z', h1, _, h2⟩ := DataW.trod_int Tryz.underlying22 hf
 simp only [Value.cells, List.cons.injEq, Value.int.injEq, true_and, and_true] at h1
 subst h1
 obtain ⟨z0, z1⟩ := int_u64 h2
 refine ⟨BitVec.ofInt 64 z, ?_⟩
 have e : ((BitVec.ofInt 64 z).toNat : Int) = z := by
  rw [BitVec.toNat_ofInt]; omega
 unfold zw
 rw [e]
 exact .v _
theorem int_i64 {z : Int} (h : (Lit.int .i64 z).wf = true) : -9223372036854775808 ≤ z ∧ z ≤ 9223372036854775807 := by simpa [Lit.wf, IntKind.min, IntKind.max, IntKind.signed, IntKind.bits] using h
set_option maxRecDepth 100000 in
theorem open_i64 (hv : Value.okWide Tryz.prog w .any b0 3 v) (e : DataW.Trod enc Tryz.prog w base spare held 3 v d p) : ∃ z : Int, -9223372036854775808 ≤ z ∧ z ≤ 9223372036854775807 ∧ VRep w [] (.v (.int .i64 z)) v := by
 obtain ⟨z, rfl⟩ := okWide_int Tryz.underlying3 hv
 obtain ⟨fuel, hf⟩ := e
 obtain ⟨z', h1, _, h2⟩ := DataW.trod_int Tryz.underlying3 hf
 simp only [Value.cells, List.cons.injEq, Value.int.injEq, true_and, and_true] at h1
 subst h1
 exact ⟨z, (int_i64 h2).1, (int_i64 h2).2, .v _⟩
end
end Go.Proofs.YtpgbpdnmjeoeoaaGreat.G
