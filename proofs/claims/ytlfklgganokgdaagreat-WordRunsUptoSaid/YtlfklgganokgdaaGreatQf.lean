/-
  TEXTS JOINED: Wk10, Wp, Wk11, Wk12, Wq, Wk13, Wk14, Wk15, Wk16, Wk17, Wk18, Wo, Wk20, Wk21, Wm.
-/
import Derived.Test.YtlfklgganokgdaaGreatQe
set_option linter.unusedSimpArgs false
set_option linter.unusedVariables false
set_option linter.unusedSectionVars false
set_option linter.unnecessarySimpa false
set_option maxHeartbeats 64000000
namespace Go.Proofs.YtlfklgganokgdaaGreat
open Go Go.RowKit

theorem strict24_ (p : Prog) (f : Fn) (hp : FnIn f) (hf : FnOk p f) (R K : Nat) (hR : f.regs.toNat = R) (hKd : (f.regs.toNat + f.slots.toNat + 63) / 64 = K) :
    ACalls Tryz.prog 57 [.agg (fnCells f)] [] (fun t S => ∃ b, t = bv b ∧ (b = true ↔ StrictF f)) := by
 have hf0 := hf.par0
 have hf1 := hf.par1
 have hf2 := hf.par2
 have hf3 := hf.regs
 have hf4 := hf.slot0
 have hf5 := hf.slot1
 have hf6 := hf.code
 have hfc := hp.code
 have hRi : f.regs = (R : Int) := by omega
 have hK2 : K ≤ 17409 := by omega
 have hKW : f.regs.toNat + f.slots.toNat ≤ 64 * K := by omega
 have hst := strictF_at hf hKW
 refine ai Tryz.func57 Tryz.ntmps57 fun X w0 => ?_
 refine rs ?_
 refine bx fun b1 => ?_
 refine y1 (nl ?_)
 refine AW.rseqH (HeldCs []) rfl (tells_cs (tc0)) ?_
 refine tq 2 ?_
 refine AWH.free [⟨0, some 9, [], [], (fun _ => .agg (fnCells f)), (fun _ => True)⟩, ⟨1, some 10, [], [1], (fun l => .v (.map (some (l.getD 0 default).2))), (fun _ => True)⟩, ⟨3, some 12, [], [], (fun _ => .sl 11 (f.code.flatMap insCells)), (fun _ => True)⟩, ⟨4, some 13, [3], [], (fun _ => .v (.int .i64 (f.code.length : Int))), (fun _ => True)⟩, ⟨5, some 14, [4], [5], (fun l => .v (.slice (l.getD 0 default).1 f.code.length f.code.length)), (fun _ => True)⟩, ⟨6, some 15, [0, 1, 5], [1, 5], (fun l => .agg (fnCells f ++ [.v (.map (some (l.getD 0 default).2)), .v (.slice (l.getD 1 default).1 f.code.length f.code.length), .v (.slice none 0 0)])), (fun _ => True)⟩, ⟨7, some 16, [6], [7], (fun l => .v (.pointer (some ⟨(l.getD 0 default).2, 0, none⟩))), (fun _ => True)⟩, ⟨8, some 3, [0, 1, 3, 4, 5, 6, 7], [7], (fun l => .v (.pointer (some ⟨(l.getD 0 default).2, 0, none⟩))), (fun _ => True)⟩] [⟨1, [1], (fun l => .map (l.getD 0 default).2 []), 999, [1], (fun l => .map (l.getD 0 default).2 [])⟩, ⟨5, [5], (fun l => .row (l.getD 0 default).1 f.code.length f.code.length 160 1 (List.replicate f.code.length (([Value.slice none 0 0]).map T.v)).flatten), 999, [5], (fun l => .row (l.getD 0 default).1 f.code.length f.code.length 160 1 (List.replicate f.code.length (([Value.slice none 0 0]).map T.v)).flatten)⟩, ⟨7, [1, 5, 7], (fun l => .box (l.getD 2 default).2 159 (fnCells f ++ [.v (.map (some (l.getD 0 default).2)), .v (.slice (l.getD 1 default).1 f.code.length f.code.length), .v (.slice none 0 0)])), 999, [1, 5, 7], (fun l => .box (l.getD 2 default).2 159 (fnCells f ++ [.v (.map (some (l.getD 0 default).2)), .v (.slice (l.getD 1 default).1 f.code.length f.code.length), .v (.slice none 0 0)]))⟩] 0 #[true, true, true, true, true, true, true, true, true] (ι := Nat × Option Addr × Nat) (fun ⟨b10, A14, b16⟩ => [(3, true, pv b16), (1, true, pv b1)]) (fun ⟨b10, A14, b16⟩ => (.map b10 [] :: .row A14 f.code.length f.code.length 160 1 (List.replicate f.code.length (([Value.slice none 0 0]).map T.v)).flatten :: .box b16 159 (fnCells f ++ [.v (.map (some b10)), .v (.slice A14 f.code.length f.code.length), .v (.slice none 0 0)]) :: .box b1 86 (fnCells f) :: [])) (fun ⟨b10, A14, b16⟩ => True) rfl (by kernel_rfl) (by kernel_rfl) (tc0) ?_ ?_ ?_
 ·refine obC rfl (fun γ env X hS hv => ?_) ?_
  ·refine Y1 (Yv.loadBoxA rfl ag_86 (i := 0) rfl (Es hS eV) rfl rfl) ?_
   exact AWL.nil (frA (none, 0) trivial rfl (.refl _))
  refine obC rfl (fun γ env X hS hv => ?_) ?_
  ·refine AWL.makeMapOp rfl rfl (B rfl) rfl (fun b10 => ?_)
   exact AWL.nil (frA (none, b10) trivial rfl (List.perm_append_singleton _ _))
  refine obC rfl (fun γ env X hS hv => ?_) ?_
  ·refine Y1 (Yv.loadBox rfl ag_84 (i := 0) rfl (Es hS eV) rfl) ?_
   exact AWL.nil (frA (none, 0) trivial rfl (.refl _))
  refine obC rfl (fun γ env X hS hv => ?_) ?_
  ·refine Y1 (Yv.lenSl rfl so_84 (B rfl) (Es hS eV) len_code) ?_
   exact AWL.nil (frA (none, 0) trivial rfl (.refl _))
  refine obC rfl (fun γ env X hS hv => ?_) ?_
  ·refine AWL.makeRow (n := f.code.length) (c := f.code.length) rfl rfl (B rfl) rfl el_157 (Es hS (E rfl rfl)) (Es hS (E rfl rfl)) (Nat.le_refl _) (by omega) (by unfold maxLen; omega) (fun A14 => ?_)
   exact AWL.nil (frA (A14, 0) trivial rfl (List.perm_append_singleton _ _))
  refine obC rfl (fun γ env X hS hv => ?_) ?_
  ·refine Y1 (Yv.buildS rfl sh_159 (evpC (Es hS eV) (evpC (Es hS eV) (evpC (Es hS eV) evp0))) (fun _ => rfl)) ?_
   exact AWL.nil (frA (none, 0) trivial rfl (.refl _))
  refine obC rfl (fun γ env X hS hv => ?_) ?_
  ·refine AWL.boxOp rfl rfl (B rfl) rfl (Es hS (E rfl rfl)) rfl (fun b16 => ?_)
   exact AWL.nil (frA (none, b16) trivial rfl (List.perm_append_singleton _ _))
  refine obC rfl (fun γ env X hS hv => ?_) ?_
  ·refine Y1 (Yv.assign rfl (Es hS eV)) ?_
   exact AWL.nil (frA (none, 0) trivial rfl (.refl _))
  trivial
 ·exact fun γ hi => ⟨((γ 1).2, (γ 5).1, (γ 7).2), trivial, sbZ, rfl⟩
 rintro ⟨b10, A14, b16⟩ _
 refine dn ?_
 refine AW.rowNil 3 1 ?_
 refine AW.perm (S' := [.map b10 (lmT (whT f.code 0)), .box b1 86 (fnCells f), .box b16 159 (fnCells f ++ [.v (.map (some b10)), .v (.slice A14 f.code.length f.code.length), .v (.slice none 0 0)]), .row A14 f.code.length f.code.length 160 1 (List.replicate f.code.length (([Value.slice none 0 0]).map T.v)).flatten, .row none 0 0 3 1 []]) (perm13.cons _) ?_
 refine sq (rs (y4 ?_))
 refine nl (bk ?_)
 refine lp1 (fun (j : Nat) => [(1, true, pv b1), (3, true, pv b16), (18, true, .sl 11 (f.code.flatMap insCells)), (19, true, .v (.int .i64 (f.code.length : Int))), (20, true, zv j)]) (fun (j : Nat) => [.map b10 (lmT (whT f.code j)), .box b1 86 (fnCells f), .box b16 159 (fnCells f ++ [.v (.map (some b10)), .v (.slice A14 f.code.length f.code.length), .v (.slice none 0 0)]), .row A14 f.code.length f.code.length 160 1 (List.replicate f.code.length (([Value.slice none 0 0]).map T.v)).flatten, .row none 0 0 3 1 []]) (fun (j : Nat) => j ≤ f.code.length) (fun (j : Nat) => f.code.length - j) 0 ?_ ?_
 ·exact Nat.zero_le _
 intro j hinv
 refine rs (y1 ?_)
 refine nl (sq ?_)
 refine cq (fun _ => ?_) fun _ => ?_
 ·have hj : j < f.code.length := by omega
  refine sp (sq (bk (rs (y3 ?_))))
  refine bx fun b5 => ?_
  refine y2 ?_
  refine nl (rs (y3 (nl ?_)))
  refine cq (fun h1t => ?_) fun h1f => ?_
  ·refine AW.regionP rfl ?_
   refine phn 7 1 ?_
   refine q7 (nq ?_)
   refine op 7 ?_
   refine AWL.mapUpd (k := .i _ _) (i := 0) rfl rfl (.inl rfl) mp_87 rfl (E rfl rfl) (E rfl rfl) (E rfl rfl) rfl rfl (lm_good _ _ rfl) (nl ?_)
   refine dn ?_
   refine AW.dropAt 5 ?_
   refine rg (y2 (nl ?_))
   refine ⟨j + 1, by omega, by omega, sbZ, ?_⟩
   rw [wh_succ hj, whStep, if_pos h1t, ← put_lm]
   rfl
  refine sp ?_
  refine AW.dropAt 5 ?_
  refine rg (y2 (nl ?_))
  refine ⟨j + 1, by omega, by omega, sbZ, ?_⟩
  rw [wh_succ hj, whStep, if_neg h1f]
  rfl
 obtain rfl : j = f.code.length := by omega
 rw [wh_all (Nat.le_refl _)]
 refine xt (rs (y6 ?_))
 refine Y1 (Yv.eqT (t' := .v (.int .i64 (K : Int))) (Yv.quoN_i64 rfl eV eV (fun hg => by omega)) (by rw [show (f.regs + f.slots + 63) / 64 = (K : Int) by omega])) ?_
 refine AWL.makeRowS (n := K) (c := K) rfl rfl (B rfl) rfl el_160 (E rfl rfl) (E rfl rfl) (Nat.le_refl _) (by omega) (by unfold maxLen; omega) (fun A43 hA43 => ?_)
 refine y1 (nl ?_)
 refine AW.perm (List.perm_append_singleton _ _).symm ?_
 refine AW.eqS (S' := [.row A43 K K 29 1 ((firstW K 0).map zw), .map b10 (lmT (whL f.code)), .box b1 86 (fnCells f), .box b16 159 (fnCells f ++ [.v (.map (some b10)), .v (.slice A14 f.code.length f.code.length), .v (.slice none 0 0)]), .row A14 f.code.length f.code.length 160 1 (List.replicate f.code.length (([Value.slice none 0 0]).map T.v)).flatten, .row none 0 0 3 1 []]) (by rw [mk_zero]; rfl) ?_
 refine sq (rs (y3 ?_))
 refine nl (bk ?_)
 refine lp1 (fun (j : Nat) => [(3, true, pv b16), (6, true, .v (.slice A43 K K)), (45, true, zi f.params), (46, true, zv j)]) (fun (j : Nat) => [.row A43 K K 29 1 ((firstW K j).map zw), .map b10 (lmT (whL f.code)), .box b1 86 (fnCells f), .box b16 159 (fnCells f ++ [.v (.map (some b10)), .v (.slice A14 f.code.length f.code.length), .v (.slice none 0 0)]), .row A14 f.code.length f.code.length 160 1 (List.replicate f.code.length (([Value.slice none 0 0]).map T.v)).flatten, .row none 0 0 3 1 []]) (fun (j : Nat) => j ≤ f.params.toNat) (fun (j : Nat) => f.params.toNat - j) 0 ?_ ?_
 ·exact Nat.zero_le _
 intro j hinv
 refine rs (y1 ?_)
 refine nl (sq ?_)
 refine cq (fun _ => ?_) fun _ => ?_
 ·refine sp (sq (bk (rs (y2 ?_))))
  refine nl (rg (y2 ?_))
  refine kc (put37 A43 K K (firstW K j) j (firstW_len K j) (by omega) (by omega)) ?_
  rintro t51 S51 ⟨rfl, rfl⟩
  refine nl (rg (y2 (nl ?_)))
  refine ⟨j + 1, by omega, by omega, sbZ, ?_⟩
  rw [firstW_succ]
  rfl
 obtain rfl : j = f.params.toNat := by omega
 refine xt ?_
 refine AW.rowNils 29 1 f.code.length ?_
 refine AW.perm (S' := .map b10 (lmT (whL f.code)) :: .box b1 86 (fnCells f) :: .row A43 K K 29 1 ((firstW K f.params.toNat).map zw) :: FSt b16 f b10 A14 f.code.length (fs0 f.code.length)) ?_ ?_
 ·have e : (FSt b16 f b10 A14 f.code.length (fs0 f.code.length) : St) = .box b16 159 (fnCells f ++ [.v (.map (some b10)), .v (.slice A14 f.code.length f.code.length), .v (.slice none 0 0)]) :: .row A14 f.code.length f.code.length 160 1 (List.replicate f.code.length (([Value.slice none 0 0]).map T.v)).flatten :: .row none 0 0 3 1 [] :: List.replicate f.code.length (.row none 0 0 29 1 []) := by
   unfold FSt fs0 flCells
   dsimp only
   rw [List.map_replicate, List.map_replicate, mk_nil]
   rfl
  rw [e]
  exact List.perm_middle (l₁ := ([.map b10 (lmT (whL f.code)), .box b1 86 (fnCells f)] : St))
 refine rs (y2 ?_)
 refine cE ce_79 [.map b10 (lmT (whL f.code)), .box b1 86 (fnCells f)] _ rfl rfl rfl (to38 b16 f b10 A14 f.code.length K (fs0 f.code.length) 0 A43 K (firstW K f.params.toNat) (fs0_ok _ _) hf6 hfc (by omega) (firstW_len K _) (Nat.zero_le _)) ?_
 rintro t55 S55 ⟨rfl, fs1, hto, rfl⟩
 refine nl ?_
 refine AW.dropAt 1 ?_
 refine AW.dropAt 1 ?_
 rw [firstW_abs (R := R) (by omega)] at hto
 have hw1 := WI.start (R := R) rfl hf6 (by omega) hto
 have hprod : f.code.length * (64 * K + 1) ≤ 1168299261952 := by
  have h1 : f.code.length * (64 * K + 1) ≤ 1048576 * (64 * 17409 + 1) := Nat.mul_le_mul hfc (by omega)
  omega
 refine sq (bk ?_)
 refine lp1 (fun (fs : FS) => [(3, true, pv b16)]) (fun (fs : FS) => (.map b10 (lmT (whL f.code)) :: FSt b16 f b10 A14 f.code.length fs)) (fun (fs : FS) => WI f R (64 * K) f.code.length K fs ∧ meas (64 * K) fs ≤ f.code.length * (64 * K + 1)) (fun (fs : FS) => 2 * pot (64 * K) (famW fs.sls) + fs.todo.length) fs1 ?_ ?_
 ·exact hw1
 intro fs hinv
 obtain ⟨hwi, hms⟩ := hinv
 have htl : fs.todo.length ≤ meas (64 * K) fs := Nat.le_add_left _ _
 refine sq (rs (y6 (nl ?_)))
 refine cq (fun _ => ?_) fun _ => ?_
 ·have htd0 : 0 < fs.todo.length := by omega
  have hkm := hwi.todo _ (getD_mem (l := fs.todo) (j := (fs.todo.length - 1)) (by omega))
  have hkn := hkm.1
  have hkl : (fs.todo.getD (fs.todo.length - 1) default) < fs.sls.length := by rw [hwi.fok.len]; exact hkn
  have hkv : (fs.sls.getD (fs.todo.getD (fs.todo.length - 1) default) default).v = some (fs.sls.getD (fs.todo.getD (fs.todo.length - 1) default) default).ws := by
   have h := hkm.2
   rw [fam_atW hkl] at h
   unfold Sw.ws
   cases hv : (fs.sls.getD (fs.todo.getD (fs.todo.length - 1) default) default).v with
   | none => rw [hv] at h; cases h
   | some x => rfl
  have hkX : famAt (famW fs.sls) (fs.todo.getD (fs.todo.length - 1) default) = some (absB (fs.sls.getD (fs.todo.getD (fs.todo.length - 1) default) default).ws) := by rw [fam_atW hkl, hkv]; rfl
  refine sp (bk (rq (q10 ?_)))
  refine Q1 (ix (j := (fs.todo.length - 1)) (hj := fun hg => ⟨by omega, by omega⟩)) ?_
  refine q2 (nq ?_)
  refine AW.rowLe 3 rfl (fun htc => ?_)
  refine AW.rseqP rfl ?_
  refine phn 14 1 ?_
  refine q11 ?_
  refine Q1 (Yv.sliceRow0 (i := 3) (m := (fs.todo.length - 1)) rfl ss_88 rfl eV (Bound.some_ eV (fun hg => by omega)) (fun hg => by omega)) ?_
  refine q2 (nq ?_)
  refine op 14 ?_
  refine y1 (nl ?_)
  refine dn ?_
  refine AW.shrink 3 (fs.todo.length - 1) rfl (Nat.sub_le _ _) ?_
  refine AW.eqS (S' := .map b10 (lmT (whL f.code)) :: FSt b16 f b10 A14 f.code.length ⟨fs.sls, fs.todo.take (fs.todo.length - 1), fs.tA, fs.tc⟩) (by
   unfold FSt flCells
   dsimp only
   rw [List.map_take, List.length_take, Nat.min_eq_left (Nat.sub_le _ _), Nat.mul_one]
   rfl) ?_
  refine rs (y2 ?_)
  refine ka (step39 p b16 f b10 A14 f.code.length K R ⟨fs.sls, fs.todo.take (fs.todo.length - 1), fs.tA, fs.tc⟩ (fs.todo.getD (fs.todo.length - 1) default) hp hf hRi ⟨hwi.fok.len, hwi.fok.ok, hwi.fok.lenK⟩ rfl hkn (by omega) hK2 hkv (by rw [List.length_take]; omega)) ?_
  rintro t90 S90 ⟨fs2, rfl, hts, rfl⟩
  refine y1 (nl ?_)
  refine cq (fun h4t => ?_) fun h4f => ?_
  ·refine rs (y1 (nl ?_))
   refine rt ?_
   refine ⟨false, rfl, ⟨fun h => (by cases h), fun h => ?_⟩⟩
   subst hR
   exact absurd (hst.1 h) (sf_not hwi.ab hkn hkX (by simpa using h4t))
  refine sp ?_
  obtain ⟨g1, g2, g3⟩ := WI.round hf rfl (by omega) hwi htd0 hkX (by simpa using h4f) (hts (by simpa using h4f))
  exact ⟨fs2, ⟨g1, by omega⟩, g3, sbZ, rfl⟩
 have htd0 : fs.todo.length = 0 := by omega
 refine xt (rs (y1 (nl ?_)))
 refine rt ?_
 subst hR
 exact ⟨true, rfl, ⟨fun _ => hst.2 (WI.done rfl hwi htd0), fun _ => rfl⟩⟩

theorem strict24 (p : Prog) (f : Fn) (hp : FnIn f) (hf : FnOk p f) : ACalls Tryz.prog 57 [.agg (fnCells f)] [] (fun t S => ∃ b, t = bv b ∧ (b = true ↔ StrictF f)) := strict24_ p f hp hf _ _ rfl rfl
theorem Strict9 (p : Prog) (hp : ProgIn p) :
    ACalls Tryz.prog 34 [.agg (progCells p)] [] (fun t S => ∃ b, t = bv b ∧ (b = true ↔ StrictP p)) := by
 have hpf := hp.funs
 have hce := check_eq p
 refine ai Tryz.func34 Tryz.ntmps34 fun X w0 => ?_
 refine rs ?_
 refine bx fun b1 => ?_
 refine y1 ?_
 refine nl (sq (rs (y1 ?_)))
 refine kp (Check6 p hp) ?_
 refine y1 (nl ?_)
 refine cq (fun h0t => ?_) fun h0f => ?_
 ·have hne : ¬ checkR p = 0 := by rw [← hce]; simpa using h0t
  refine rs (y1 (nl ?_))
  refine rt ?_
  exact ⟨false, rfl, ⟨fun h => (by cases h), fun h => absurd h.1 hne⟩⟩
 have he0 : checkR p = 0 := by rw [← hce]; simpa using h0f
 have hok := check_good he0
 refine sp (sq (rs (y4 ?_)))
 refine nl (bk ?_)
 refine lp1 (fun (j : Nat) => [(9, true, .sl 5 (p.funs.flatMap fnCells)), (10, true, .v (.int .i64 (p.funs.length : Int))), (11, true, zv j)]) (fun (j : Nat) => [.box b1 25 (progCells p)]) (fun (j : Nat) => j ≤ p.funs.length ∧ ∀ q, q < j → StrictF (p.funs.getD q default)) (fun (j : Nat) => p.funs.length - j) 0 ?_ ?_
 ·exact ⟨Nat.zero_le _, fun q hq => absurd hq (Nat.not_lt_zero q)⟩
 intro j hinv
 obtain ⟨hj, hst⟩ := hinv
 refine rs (y1 ?_)
 refine nl (sq ?_)
 refine cq (fun _ => ?_) fun _ => ?_
 ·have hj2 : j < p.funs.length := by omega
  refine sp (sq (bk (rs (y2 ?_))))
  refine bx fun b4 => ?_
  refine y1 ?_
  refine nl (rs (y1 ?_))
  refine kt (strict24 p (p.funs.getD j default) (hp.fn _ (getD_mem hj2)) (hok.fn _ (getD_mem hj2))) ?_
  rintro t16 S16 ⟨b5, rfl, hb5⟩
  refine y1 (nl ?_)
  refine cq (fun h2t => ?_) fun h2f => ?_
  ·refine rs (y1 (nl ?_))
   refine rt ?_
   exact ⟨false, rfl, ⟨fun h => (by cases h), fun h => absurd (hb5.2 (h.2 _ (getD_mem hj2))) (by simpa using h2t)⟩⟩
  refine sp ?_
  refine AW.dropAt 1 ?_
  refine rg (y2 (nl ?_))
  refine ⟨j + 1, ⟨by omega, fun q hq => ?_⟩, by omega, sbZ, rfl⟩
  rcases Nat.lt_or_ge q j with h | h
  ·exact hst q h
  obtain rfl : q = j := by omega
  exact hb5.1 (by simpa using h2f)
 refine xt (rs (y1 (nl ?_)))
 refine rt ?_
 exact ⟨true, rfl, ⟨fun _ => ⟨he0, fun g hg => by
  obtain ⟨q, hq, rfl⟩ := List.mem_iff_getElem.1 hg
  rw [← gd hq]; exact hst q (by omega)⟩, fun _ => rfl⟩⟩

def nilT : T := .v (.slice none 0 0)
def insRaw (k d a b imm : Int) : List T := [zi k, zi d, zi a, zi b, zi 0, zi 0, zi 0, zi 0, zi 0, zi imm, nilT]
def mkIns (k d a b imm : Int) : Ins := ⟨k, d, a, b, 0, 0, 0, 0, 0, imm, []⟩
def little : Prog := ⟨[⟨[109, 97, 105, 110], 0, 3, 0, [mkIns 1 0 0 0 5, mkIns 1 1 0 0 7, mkIns 4 2 0 1 0, mkIns 26 0 2 0 0]⟩], [], 0⟩
def littleRaw : T := .agg [.sl 5 [sv [109, 97, 105, 110], zi 0, zi 3, zi 0, .sl 11 (insRaw 1 0 0 0 5 ++ insRaw 1 1 0 0 7 ++ insRaw 4 2 0 1 0 ++ insRaw 26 0 2 0 0)], nilT, zi 0]
theorem nil_le (k : Nat) : Le nilT (.sl k []) := nil_sl (by unfold maxLen; omega)
theorem ins_le (k d a b imm : Int) : Les (insRaw k d a b imm) (insCells (mkIns k d a b imm)) :=
 .cons .refl (.cons .refl (.cons .refl (.cons .refl (.cons .refl (.cons .refl (.cons .refl (.cons .refl (.cons .refl (.cons .refl (.cons (nil_le 1) .refl))))))))))
theorem little_le : Le littleRaw (.agg (progCells little)) := by
 refine Le.agg (.cons (Le.sl ?_) (.cons (nil_le 1) .refl))
 refine .cons .refl (.cons .refl (.cons .refl (.cons .refl (.cons (Le.sl ?_) .refl))))
 exact ((((ins_le 1 0 0 0 5).append (ins_le 1 1 0 0 7)).append (ins_le 4 2 0 1 0)).append (ins_le 26 0 2 0 0))
theorem little_in : ProgIn little := by
 refine ⟨by decide, by decide, fun f hf => ?_, by decide, by decide, by decide⟩
 cases List.mem_singleton.1 hf
 exact ⟨by decide, by decide, by decide, fun i hi => by
  simp only [List.mem_cons, List.not_mem_nil, or_false] at hi
  rcases hi with rfl | rfl | rfl | rfl <;> exact ⟨by decide, by decide, by decide⟩⟩
theorem set_same {l : List Fn} {j : Nat} (h : j < l.length) (t : T) : ((l.flatMap fnCells).set (j * 5 + 4) t).set (j * 5 + 4) (.sl 11 ((l.getD j default).code.flatMap insCells)) = l.flatMap fnCells := by
 rw [List.set_set]
 have h1 : (l.flatMap fnCells)[j * 5 + 4]? = some (.sl 11 ((l.getD j default).code.flatMap insCells)) := flat_at fk h 4 (by decide)
 have h2 : j * 5 + 4 < (l.flatMap fnCells).length := by rw [len_funs]; omega
 rw [List.getElem?_eq_getElem h2] at h1
 rw [← Option.some.inj h1, List.set_getElem_self]
theorem set_args {l : List Ins} {j : Nat} (h : j < l.length) : (l.flatMap insCells).set (j * 11 + 10) (.sl 1 ((l.getD j default).args.map zi)) = l.flatMap insCells := by
 have h1 : (l.flatMap insCells)[j * 11 + 10]? = some (.sl 1 ((l.getD j default).args.map zi)) := flat_at ik h 10 (by decide)
 have h2 : j * 11 + 10 < (l.flatMap insCells).length := by rw [len_code]; omega
 rw [List.getElem?_eq_getElem h2] at h1
 rw [← Option.some.inj h1, List.set_getElem_self]
theorem set_get {l : List T} {j : Nat} (t : T) (h : j < l.length) : (l.set j t)[j]? = some t := by rw [List.getElem?_set_self h]
theorem iargs_at {l : List Ins} {j : Nat} (h : j < l.length) : (l.flatMap insCells)[j * 11 + 10]? = some (.sl 1 ((l.getD j default).args.map zi)) := flat_at ik h 10 (by decide)
/-! ### how great a program is -/
def bigF (f : Fn) (n : Int) : Bool := ((decide (4000 < f.regs) || decide (4000 < f.slots)) || decide ((4000 : Int) < f.code.length)) || decide (4000 < n)
def addF (f : Fn) (n : Int) : Int := IntKind.i64.wrap (IntKind.i64.wrap (IntKind.i64.wrap (n + f.regs) + f.slots) + (f.code.length : Int))
def sizeF : List Fn → Int → Int
 | [], n => n
 | f :: r, n => if bigF f n = true then 5000 else sizeF r (addF f n)
theorem size_drop {l : List Fn} {j : Nat} (h : j < l.length) (n : Int) : sizeF (l.drop j) n = if bigF (l.getD j default) n = true then 5000 else sizeF (l.drop (j + 1)) (addF (l.getD j default) n) := by
 rw [List.drop_eq_getElem_cons h, sizeF, gd h]
/-! ### a process -/
structure PS where
 prog : Prog
 lab : T
 heap : Wd64
 strict : Bool
 w : T
 pages : T
 ent : Bool
 st : Int
 ans : Wd64
 code : Int
 steps : Int
def psC (x : PS) (cl : T) : List T := [.sl 5 (x.prog.funs.flatMap fnCells), .sl 1 (x.prog.data.map u8), zi x.prog.zero, x.lab, zw x.heap, bv x.strict, x.w, x.pages, cl, bv x.ent, zi x.st, zw x.ans, zi x.code, zi x.steps]
structure Fr where
 f : Int
 at_ : Int
 nr : Nat
 ns : Nat
 r : List Wd64
 slot : List Wd64
 set : List Bool
 there : List Bool
 d : Int
structure FA where
 r : Option Addr
 s : Option Addr
 t : Option Addr
 h : Option Addr
def frC (x : Fr) (a : FA) : List T := [zi x.f, zi x.at_, .v (.slice a.r x.nr x.nr), .v (.slice a.s x.ns x.ns), .v (.slice a.t x.nr x.nr), .v (.slice a.h x.ns x.ns), zi x.d]
def frR (x : Fr) (a : FA) : St := [.row a.r x.nr x.nr 29 1 (x.r.map zw), .row a.s x.ns x.ns 29 1 (x.slot.map zw), .row a.t x.nr x.nr 4 1 (x.set.map bv), .row a.h x.ns x.ns 4 1 (x.there.map bv)]
theorem frC_len (x : Fr) (a : FA) : (frC x a).length = 7 := rfl
def rJ (args : List Wd64) (R j : Nat) : List Wd64 := args.take j ++ List.replicate (R - j) 0#64
def sJ (R j : Nat) : List Bool := List.replicate j true ++ List.replicate (R - j) false
def openFr (f : Fn) (fi : Int) (args : List Wd64) (d : Int) : Fr :=
 ⟨fi, 0, f.regs.toNat, f.slots.toNat, rJ args f.regs.toNat args.length, List.replicate f.slots.toNat 0#64, sJ f.regs.toNat args.length, List.replicate f.slots.toNat false, d⟩
theorem mk_rep (n : Nat) (u : Value) : (List.replicate n ([u].map T.v)).flatten = List.replicate n (T.v u) := by
 induction n with
 | zero => rfl
 | succ n ih => rw [List.replicate_succ, List.flatten_cons, ih]; rfl
theorem zero_r (args : List Wd64) (R : Nat) : (List.replicate R ([Value.int .u64 0].map T.v)).flatten = (rJ args R 0).map zw := by
 rw [mk_rep]; simp [rJ, zw]
theorem zero_s (R : Nat) : (List.replicate R ([Value.bool false].map T.v)).flatten = (sJ R 0).map bv := by
 rw [mk_rep]; simp [sJ, bv]
theorem zero_b (R : Nat) : (List.replicate R ([Value.bool false].map T.v)).flatten = (List.replicate R false).map bv := by
 rw [mk_rep]; simp [bv]
theorem rj_len {args : List Wd64} {R j : Nat} (h : j ≤ args.length) (hR : args.length ≤ R) : (rJ args R j).length = R := by
 unfold rJ; rw [List.length_append, List.length_take, List.length_replicate]; omega
theorem sj_len {R j : Nat} (h : j ≤ R) : (sJ R j).length = R := by
 unfold sJ; rw [List.length_append, List.length_replicate, List.length_replicate]; omega
theorem rj_succ {args : List Wd64} {R j : Nat} (h : j < args.length) (hR : args.length ≤ R) : ((rJ args R j).map zw).set (j * 1) (zw (args.getD j 0#64)) = (rJ args R (j + 1)).map zw := by
 rw [Nat.mul_one, ← List.map_set]
 congr 1
 unfold rJ
 rw [show args.take (j + 1) = args.take j ++ [args.getD j 0#64] from take_gd h, show R - j = (R - (j + 1)) + 1 by omega, List.replicate_succ, List.set_append_right _ _ (by rw [List.length_take]; omega), List.length_take, Nat.min_eq_left (Nat.le_of_lt h), Nat.sub_self, List.append_assoc]
 rfl
theorem sj_succ {R j : Nat} (hR : j < R) : ((sJ R j).map bv).set (j * 1) (bv true) = (sJ R (j + 1)).map bv := by
 rw [Nat.mul_one, ← List.map_set]
 congr 1
 unfold sJ
 rw [show R - j = (R - (j + 1)) + 1 by omega, List.replicate_succ, List.set_append_right _ _ (by rw [List.length_replicate]; exact Nat.le_refl _), List.length_replicate, Nat.sub_self, List.replicate_succ', List.append_assoc]
 rfl
theorem bool_at {l : List Bool} {j : Nat} (h : j < l.length) : (l.map bv)[j * 1 + 0]? = some (bv (l.getD j default)) := by
 rw [Nat.mul_one, Nat.add_zero, List.getElem?_map, List.getElem?_eq_getElem h, gd h]; rfl
theorem len_zw {l : List Wd64} : (l.map zw).length = l.length * 1 := by simp

theorem clone45R (l : List Fn) (h1 : l.length ≤ 1048576) :
    ACalls Tryz.prog 52 [.sl 5 (l.flatMap fnCells)] [] (fun t S => ∃ A c, t = .v (.slice A l.length c) ∧ S = [.row A l.length c 86 5 (l.flatMap fnCells)]) := by
 refine ai Tryz.func52 Tryz.ntmps52 fun X w0 => ?_
 refine rs (y1 ?_)
 refine nl (sq (rs (y1 ?_)))
 refine AWL.yx rfl rfl (B rfl) (Yx.eqNil rfl so_22 (E rfl rfl)) ?_
 rintro t4 ⟨v4, rfl, hnil4⟩
 refine nl ?_
 refine cq (fun h0t => ?_) fun _ => ?_
 ·refine rs (y1 (nl ?_))
  refine AW.rowNil 86 5 ?_
  refine rt ?_
  have hb : l = [] := by
   cases hq : l with
   | nil => rfl
   | cons a r => rw [hq] at hnil4; exact absurd (hnil4 h0t) (by intro h; have := congrArg List.length h; simp [List.flatMap_cons, fnCells, insCells] at this)
  subst hb
  exact ⟨none, 0, rfl, rfl⟩
 refine sp (rs ?_)
 refine AWL.buildSliceRow rfl rfl (B rfl) rfl el_22 (B rfl) rfl evs0 nB rfl rfl (fun A5 => ?_)
 refine y1 ?_
 refine AWL.appendRow (i := 0) rfl rfl (B rfl) rfl el_22 (B rfl) rfl (E rfl rfl) (SrcT.sl so_22 (B rfl) (E rfl rfl) len_funs) (by unfold maxLen; omega) (by omega) (fun A7 c7 => ?_)
 refine y1 (nl ?_)
 refine rt ?_
 exact ⟨A7, c7, by rw [Nat.zero_add]; rfl, by rw [Nat.zero_add]; rfl⟩

theorem clone46R (l : List Ins) (h1 : l.length ≤ 1048576) :
    ACalls Tryz.prog 53 [.sl 11 (l.flatMap insCells)] [] (fun t S => ∃ A c, t = .v (.slice A l.length c) ∧ S = [.row A l.length c 90 11 (l.flatMap insCells)]) := by
 refine ai Tryz.func53 Tryz.ntmps53 fun X w0 => ?_
 refine rs (y1 ?_)
 refine nl (sq (rs (y1 ?_)))
 refine AWL.yx rfl rfl (B rfl) (Yx.eqNil rfl so_84 (E rfl rfl)) ?_
 rintro t4 ⟨v4, rfl, hnil4⟩
 refine nl ?_
 refine cq (fun h0t => ?_) fun _ => ?_
 ·refine rs (y1 (nl ?_))
  refine AW.rowNil 90 11 ?_
  refine rt ?_
  have hb : l = [] := by
   cases hq : l with
   | nil => rfl
   | cons a r => rw [hq] at hnil4; exact absurd (hnil4 h0t) (by intro h; have := congrArg List.length h; simp [List.flatMap_cons, fnCells, insCells] at this)
  subst hb
  exact ⟨none, 0, rfl, rfl⟩
 refine sp (rs ?_)
 refine AWL.buildSliceRow rfl rfl (B rfl) rfl el_84 (B rfl) rfl evs0 nB rfl rfl (fun A5 => ?_)
 refine y1 ?_
 refine AWL.appendRow (i := 0) rfl rfl (B rfl) rfl el_84 (B rfl) rfl (E rfl rfl) (SrcT.sl so_84 (B rfl) (E rfl rfl) len_code) (by unfold maxLen; omega) (by omega) (fun A7 c7 => ?_)
 refine y1 (nl ?_)
 refine rt ?_
 exact ⟨A7, c7, by rw [Nat.zero_add]; rfl, by rw [Nat.zero_add]; rfl⟩

theorem clone47 (l : List Int) (h1 : l.length ≤ 1048576) :
    ACalls Tryz.prog 54 [.sl 1 (l.map zi)] [] (fun t_ S => t_ = .sl 1 (l.map zi)) := by
 refine ai Tryz.func54 Tryz.ntmps54 fun X w0 => ?_
 refine rs (y1 ?_)
 refine nl (sq (rs (y1 ?_)))
 refine AWL.yx rfl rfl (B rfl) (Yx.eqNil rfl so_88 (E rfl rfl)) ?_
 rintro t4 ⟨v4, rfl, hnil4⟩
 refine nl ?_
 refine cq (fun h0t => ?_) fun _ => ?_
 ·refine rs (y1 (nl ?_))
  refine AW.retype (k := 2) rfl (nil_sl (k := 1) (by unfold maxLen; omega)) ?_
  refine rt ?_
  have hb := List.map_eq_nil_iff.1 (hnil4 h0t)
  subst hb
  rfl
 refine sp (rs ?_)
 refine AWL.buildSliceRow rfl rfl (B rfl) rfl el_88 (B rfl) rfl evs0 nB rfl rfl (fun A5 => ?_)
 refine y1 ?_
 refine AWL.appendRow (i := 0) rfl rfl (B rfl) rfl el_88 (B rfl) rfl (E rfl rfl) (SrcT.sl so_88 (B rfl) (E rfl rfl) len_args) (by unfold maxLen; omega) (by omega) (fun A7 c7 => ?_)
 refine y1 (nl ?_)
 refine AW.freeze 0 2 rfl (B rfl) rfl ?_
 refine rt ?_
 rfl

theorem clone48 (l : List UInt8) (h1 : l.length ≤ 1048576) :
    ACalls Tryz.prog 55 [.sl 1 (l.map u8)] [] (fun t_ S => t_ = .sl 1 (l.map u8)) := by
 refine ai Tryz.func55 Tryz.ntmps55 fun X w0 => ?_
 refine rs (y1 ?_)
 refine nl (sq (rs (y1 ?_)))
 refine AWL.yx rfl rfl (B rfl) (Yx.eqNil rfl so_23 (E rfl rfl)) ?_
 rintro t4 ⟨v4, rfl, hnil4⟩
 refine nl ?_
 refine cq (fun h0t => ?_) fun _ => ?_
 ·refine rs (y1 (nl ?_))
  refine AW.retype (k := 2) rfl (nil_sl (k := 1) (by unfold maxLen; omega)) ?_
  refine rt ?_
  have hb := List.map_eq_nil_iff.1 (hnil4 h0t)
  subst hb
  rfl
 refine sp (rs ?_)
 refine AWL.buildSliceRow rfl rfl (B rfl) rfl el_23 (B rfl) rfl evs0 nB rfl rfl (fun A5 => ?_)
 refine y1 ?_
 refine AWL.appendRow (i := 0) rfl rfl (B rfl) rfl el_23 (B rfl) rfl (E rfl rfl) (SrcT.sl so_23 (B rfl) (E rfl rfl) len_data) (by unfold maxLen; omega) (by omega) (fun A7 c7 => ?_)
 refine y1 (nl ?_)
 refine AW.freeze 0 2 rfl (B rfl) rfl ?_
 refine rt ?_
 rfl

theorem little26  :
    ACalls Tryz.prog 33 [] [] (fun t S => t = littleRaw) := by
 refine ai Tryz.func33 Tryz.ntmps33 fun X w0 => ?_
 refine rs ?_
 refine bx fun b0 => ?_
 refine nl (rs (y4 ?_))
 refine AWL.buildSliceE rfl rfl (B rfl) rfl el_84 (B rfl) rfl (evsC (E rfl rfl) (evsC (E rfl rfl) (evsC (E rfl rfl) (evsC (E rfl rfl) evs0)))) nB rfl rfl ?_
 refine y1 ?_
 refine AWL.buildSliceE rfl rfl (B rfl) rfl el_22 (B rfl) rfl (evsC (E rfl rfl) evs0) nB rfl rfl ?_
 refine y2 (nl ?_)
 refine AW.ret (retI (.cellA (i := 0) rfl ag_25 rfl rfl rfl .nil) ?_)
 rfl

theorem size8 (p : Prog) (hp : ProgIn p) :
    ACalls Tryz.prog 9 [.agg (progCells p)] [] (fun t S => t = zi (sizeF p.funs 0)) := by
 have hpf := hp.funs
 refine ai Tryz.func9 Tryz.ntmps9 fun X w0 => ?_
 refine rs ?_
 refine bx fun b1 => ?_
 refine y1 ?_
 refine nl (rs (y1 ?_))
 refine nl (sq (rs (y1 ?_)))
 refine nl (bk ?_)
 refine lp2 (fun (j : Nat) (n : Int) => [(1, true, pv b1), (3, true, zi n), (4, true, zv j)]) (fun (j : Nat) (n : Int) => [.box b1 25 (progCells p)]) (fun (j : Nat) (n : Int) => j ≤ p.funs.length ∧ sizeF (p.funs.drop j) n = sizeF p.funs 0) (fun (j : Nat) (n : Int) => p.funs.length - j) 0 0 ?_ ?_
 ·exact ⟨Nat.zero_le _, rfl⟩
 intro j n hinv
 obtain ⟨hj0, hsz⟩ := hinv
 refine sq (rs (y5 (nl ?_)))
 refine cq (fun _ => ?_) fun _ => ?_
 ·have hj : j < p.funs.length := by omega
  have hfi := hp.fn _ (getD_mem hj)
  have hfc := hfi.code
  refine sp (sq (bk (rs (y5 ?_))))
  refine bx fun b5 => ?_
  refine y1 ?_
  refine nl (sq (rs (y18 (nl ?_))))
  refine cq (fun h1t => ?_) fun h1f => ?_
  ·refine rs (y1 (nl ?_))
   refine rt ?_
   rw [← hsz, size_drop hj, if_pos (show bigF (p.funs.getD j default) n = true from h1t)]
   rfl
  refine sp (rg (y3 ?_))
  refine Y1 (Yv.add rfl eV eV) ?_
  refine y2 ?_
  refine Y1 (Yv.add rfl eV eV) ?_
  refine y3 ?_
  refine Y1 (Yv.add rfl eV eV) ?_
  refine y1 (nl ?_)
  refine AW.dropAt 1 ?_
  refine rg (y3 (nl ?_))
  refine ⟨j + 1, _, ⟨by omega, ?_⟩, by omega, sbZ, rfl⟩
  rw [← hsz, size_drop hj, if_neg (by rw [show bigF (p.funs.getD j default) n = false from h1f]; decide)]
  rfl
 refine xt (rs (y2 (nl ?_)))
 refine rt ?_
 rw [← hsz, List.drop_of_length_le (by omega)]
 rfl

theorem kept29 (p : Prog) (hp : ProgIn p) :
    ACalls Tryz.prog 27 [.agg (progCells p)] [] (fun t S => t = .agg (progCells p)) := by
 have hpf := hp.funs
 have hpd := hp.data
 refine ai Tryz.func27 Tryz.ntmps27 fun X w0 => ?_
 refine rs ?_
 refine bx fun b1 => ?_
 refine bx fun b2 => ?_
 refine nl (rs (y2 ?_))
 refine kc (clone45R p.funs hpf) ?_
 rintro t7 S7 ⟨A1, c1, rfl, rfl⟩
 refine y2 (nl ?_)
 refine AW.eqS (S' := [.row A1 p.funs.length c1 86 5 (p.funs.flatMap fnCells), .box b1 25 [.v (.slice A1 p.funs.length c1), .sl 1 (p.data.map u8), zi p.zero], .box b2 25 [nilT, nilT, zi 0]]) rfl ?_
 refine sq (rs (y4 ?_))
 refine nl (bk ?_)
 refine lp1 (fun (k : Nat) => [(1, true, pv b1), (2, true, pv b2), (10, true, .v (.slice A1 p.funs.length c1)), (11, true, .v (.int .i64 (p.funs.length : Int))), (12, true, zv k)]) (fun (k : Nat) => [.row A1 p.funs.length c1 86 5 (p.funs.flatMap fnCells), .box b1 25 [.v (.slice A1 p.funs.length c1), .sl 1 (p.data.map u8), zi p.zero], .box b2 25 [nilT, nilT, zi 0]]) (fun (k : Nat) => k ≤ p.funs.length) (fun (k : Nat) => p.funs.length - k) 0 ?_ ?_
 ·exact Nat.zero_le _
 intro k hinv
 refine rs (y1 ?_)
 refine nl (sq ?_)
 refine cq (fun _ => ?_) fun _ => ?_
 ·have hk : k < p.funs.length := by omega
  have hfi := hp.fn _ (getD_mem hk)
  have hfc := hfi.code
  refine sp (sq (bk (rs (y2 (nl ?_)))))
  refine AW.mid (α := Option Addr × Nat) (fun _ => [(1, true, pv b1), (2, true, pv b2), (3, true, zv k), (10, true, .v (.slice A1 p.funs.length c1)), (11, true, .v (.int .i64 (p.funs.length : Int))), (12, true, zv k)]) (fun y => [.row y.1 (p.funs.getD k default).code.length y.2 90 11 ((p.funs.getD k default).code.flatMap insCells), .row A1 p.funs.length c1 86 5 ((p.funs.flatMap fnCells).set (k * 5 + 4) (.v (.slice y.1 (p.funs.getD k default).code.length y.2))), .box b1 25 [.v (.slice A1 p.funs.length c1), .sl 1 (p.data.map u8), zi p.zero], .box b2 25 [nilT, nilT, zi 0]]) (fun _ => True) ?_ ?_
  ·refine AW.regionP rfl ?_
   refine tp 0 ?_
   refine tp 2 ?_
   refine tp 3 ?_
   refine tp 5 ?_
   refine wp2 1 4 ?_ ?_
   ·refine y1 (nl ?_)
    refine op 4 ?_
    refine y1 (nl ?_)
    refine op 6 ?_
    refine y1 (nl ?_)
    refine op 7 ?_
    refine y1 (nl ?_)
    refine op 8 ?_
    refine y1 (nl ?_)
    refine op 9 ?_
    refine kc (clone46R (p.funs.getD k default).code hfc) ?_
    rintro t24 S24 ⟨A2, c2, rfl, rfl⟩
    refine nl ?_
    refine op 10 ?_
    refine y1 (nl ?_)
    refine op 11 ?_
    refine y1 (nl ?_)
    refine op 12 ?_
    refine y1 (nl ?_)
    refine dn ?_
    exact ⟨(A2, c2), trivial, sbZ, rfl⟩
   refine y1 (nl ?_)
   refine tp 6 ?_
   refine tp 7 ?_
   refine wp2 1 8 ?_ ?_
   ·refine y1 (nl ?_)
    refine op 8 ?_
    refine y1 (nl ?_)
    refine op 9 ?_
    refine kc (clone46R (p.funs.getD k default).code hfc) ?_
    rintro t24 S24 ⟨A2, c2, rfl, rfl⟩
    refine nl ?_
    refine op 10 ?_
    refine y1 (nl ?_)
    refine op 11 ?_
    refine y1 (nl ?_)
    refine op 12 ?_
    refine y1 (nl ?_)
    refine dn ?_
    exact ⟨(A2, c2), trivial, sbZ, rfl⟩
   refine y1 (nl ?_)
   refine wp2 1 9 ?_ ?_
   ·refine y1 (nl ?_)
    refine op 9 ?_
    refine kc (clone46R (p.funs.getD k default).code hfc) ?_
    rintro t24 S24 ⟨A2, c2, rfl, rfl⟩
    refine nl ?_
    refine op 10 ?_
    refine y1 (nl ?_)
    refine op 11 ?_
    refine y1 (nl ?_)
    refine op 12 ?_
    refine y1 (nl ?_)
    refine dn ?_
    exact ⟨(A2, c2), trivial, sbZ, rfl⟩
   refine kc (clone46R (p.funs.getD k default).code hfc) ?_
   rintro t24 S24 ⟨A2, c2, rfl, rfl⟩
   refine nl ?_
   refine op 1 ?_
   refine y1 (nl ?_)
   refine op 10 ?_
   refine y1 (nl ?_)
   refine op 11 ?_
   refine y1 (nl ?_)
   refine op 12 ?_
   refine y1 (nl ?_)
   refine dn ?_
   exact ⟨(A2, c2), trivial, sbZ, rfl⟩
  rintro ⟨A2, c2⟩ hmid
  refine rs (y5 ?_)
  refine Y1 (lw (hr := fun hg => set_get _ (by rw [len_funs]; omega))) ?_
  refine y2 ?_
  refine nl (bk ?_)
  refine lp1 (fun (i : Nat) => [(1, true, pv b1), (2, true, pv b2), (3, true, zv k), (10, true, .v (.slice A1 p.funs.length c1)), (11, true, .v (.int .i64 (p.funs.length : Int))), (12, true, zv k), (33, true, .v (.int .i64 ((p.funs.getD k default).code.length : Int))), (34, true, zv i)]) (fun (i : Nat) => [.row A2 (p.funs.getD k default).code.length c2 90 11 ((p.funs.getD k default).code.flatMap insCells), .row A1 p.funs.length c1 86 5 ((p.funs.flatMap fnCells).set (k * 5 + 4) (.v (.slice A2 (p.funs.getD k default).code.length c2))), .box b1 25 [.v (.slice A1 p.funs.length c1), .sl 1 (p.data.map u8), zi p.zero], .box b2 25 [nilT, nilT, zi 0]]) (fun (i : Nat) => i ≤ (p.funs.getD k default).code.length) (fun (i : Nat) => (p.funs.getD k default).code.length - i) 0 ?_ ?_
  ·exact Nat.zero_le _
  intro i hi0
  refine rs (y1 ?_)
  refine nl (sq ?_)
  refine cq (fun _ => ?_) fun _ => ?_
  ·have hi : i < (p.funs.getD k default).code.length := by omega
   have hia := (hfi.ins _ (getD_mem hi)).args
   refine sp (sq (bk (rs (y2 (nl ?_)))))
   refine AW.regionP rfl ?_
   refine tp 0 ?_
   refine tp 2 ?_
   refine tp 6 ?_
   refine tp 7 ?_
   refine tp 9 ?_
   refine tp 13 ?_
   refine wp2 1 8 ?_ ?_
   ·refine y1 (nl ?_)
    refine tp 3 ?_
    refine tp 4 ?_
    refine wp2 5 8 ?_ ?_
    ·refine Y1 (lw (hr := fun hg => set_get _ (by rw [len_funs]; omega))) (nl ?_)
     refine op 8 ?_
     refine y1 (nl ?_)
     refine op 10 ?_
     refine y1 (nl ?_)
     refine op 11 ?_
     refine y1 (nl ?_)
     refine op 12 ?_
     refine Y1 (lw (hr := fun hg => set_get _ (by rw [len_funs]; omega))) (nl ?_)
     refine op 14 ?_
     refine y1 (nl ?_)
     refine op 15 ?_
     refine y1 (nl ?_)
     refine op 16 ?_
     refine y1 (nl ?_)
     refine op 17 ?_
     refine kt (clone47 ((p.funs.getD k default).code.getD i default).args hia) ?_
     rintro t54 S54 rfl
     refine nl ?_
     refine op 18 ?_
     refine y1 (nl ?_)
     refine op 19 ?_
     refine y1 (nl ?_)
     refine op 20 ?_
     refine y1 (nl ?_)
     refine dn ?_
     rw [set_args (by omega)]
     refine rg (y2 (nl ?_))
     refine ⟨i + 1, by omega, by omega, sbZ, rfl⟩
    refine y1 (nl ?_)
    refine tp 10 ?_
    refine tp 11 ?_
    refine wp2 5 12 ?_ ?_
    ·refine Y1 (lw (hr := fun hg => set_get _ (by rw [len_funs]; omega))) (nl ?_)
     refine op 12 ?_
     refine Y1 (lw (hr := fun hg => set_get _ (by rw [len_funs]; omega))) (nl ?_)
     refine op 14 ?_
     refine y1 (nl ?_)
     refine op 15 ?_
     refine y1 (nl ?_)
     refine op 16 ?_
     refine y1 (nl ?_)
     refine op 17 ?_
     refine kt (clone47 ((p.funs.getD k default).code.getD i default).args hia) ?_
     rintro t54 S54 rfl
     refine nl ?_
     refine op 18 ?_
     refine y1 (nl ?_)
     refine op 19 ?_
     refine y1 (nl ?_)
     refine op 20 ?_
     refine y1 (nl ?_)
     refine dn ?_
     rw [set_args (by omega)]
     refine rg (y2 (nl ?_))
     refine ⟨i + 1, by omega, by omega, sbZ, rfl⟩
    refine Y1 (lw (hr := fun hg => set_get _ (by rw [len_funs]; omega))) (nl ?_)
    refine tp 14 ?_
    refine tp 15 ?_
    refine wp2 5 16 ?_ ?_
    ·refine Y1 (lw (hr := fun hg => set_get _ (by rw [len_funs]; omega))) (nl ?_)
     refine op 16 ?_
     refine y1 (nl ?_)
     refine op 17 ?_
     refine kt (clone47 ((p.funs.getD k default).code.getD i default).args hia) ?_
     rintro t54 S54 rfl
     refine nl ?_
     refine op 18 ?_
     refine y1 (nl ?_)
     refine op 19 ?_
     refine y1 (nl ?_)
     refine op 20 ?_
     refine y1 (nl ?_)
     refine dn ?_
     rw [set_args (by omega)]
     refine rg (y2 (nl ?_))
     refine ⟨i + 1, by omega, by omega, sbZ, rfl⟩
    refine y1 (nl ?_)
    refine wp2 5 17 ?_ ?_
    ·refine Y1 (lw (hr := fun hg => set_get _ (by rw [len_funs]; omega))) (nl ?_)
     refine op 17 ?_
     refine kt (clone47 ((p.funs.getD k default).code.getD i default).args hia) ?_
     rintro t54 S54 rfl
     refine nl ?_
     refine op 18 ?_
     refine y1 (nl ?_)
     refine op 19 ?_
     refine y1 (nl ?_)
     refine op 20 ?_
     refine y1 (nl ?_)
     refine dn ?_
     rw [set_args (by omega)]
     refine rg (y2 (nl ?_))
     refine ⟨i + 1, by omega, by omega, sbZ, rfl⟩
    refine kt (clone47 ((p.funs.getD k default).code.getD i default).args hia) ?_
    rintro t54 S54 rfl
    refine nl ?_
    refine op 5 ?_
    refine Y1 (lw (hr := fun hg => set_get _ (by rw [len_funs]; omega))) (nl ?_)
    refine op 18 ?_
    refine y1 (nl ?_)
    refine op 19 ?_
    refine y1 (nl ?_)
    refine op 20 ?_
    refine y1 (nl ?_)
    refine dn ?_
    rw [set_args (by omega)]
    refine rg (y2 (nl ?_))
    refine ⟨i + 1, by omega, by omega, sbZ, rfl⟩
   refine y1 (nl ?_)
   refine tp 10 ?_
   refine tp 11 ?_
   refine wp2 1 12 ?_ ?_
   ·refine y1 (nl ?_)
    refine tp 3 ?_
    refine tp 4 ?_
    refine wp2 5 12 ?_ ?_
    ·refine Y1 (lw (hr := fun hg => set_get _ (by rw [len_funs]; omega))) (nl ?_)
     refine op 12 ?_
     refine Y1 (lw (hr := fun hg => set_get _ (by rw [len_funs]; omega))) (nl ?_)
     refine op 14 ?_
     refine y1 (nl ?_)
     refine op 15 ?_
     refine y1 (nl ?_)
     refine op 16 ?_
     refine y1 (nl ?_)
     refine op 17 ?_
     refine kt (clone47 ((p.funs.getD k default).code.getD i default).args hia) ?_
     rintro t54 S54 rfl
     refine nl ?_
     refine op 18 ?_
     refine y1 (nl ?_)
     refine op 19 ?_
     refine y1 (nl ?_)
     refine op 20 ?_
     refine y1 (nl ?_)
     refine dn ?_
     rw [set_args (by omega)]
     refine rg (y2 (nl ?_))
     refine ⟨i + 1, by omega, by omega, sbZ, rfl⟩
    refine Y1 (lw (hr := fun hg => set_get _ (by rw [len_funs]; omega))) (nl ?_)
    refine tp 14 ?_
    refine tp 15 ?_
    refine wp2 5 16 ?_ ?_
    ·refine Y1 (lw (hr := fun hg => set_get _ (by rw [len_funs]; omega))) (nl ?_)
     refine op 16 ?_
     refine y1 (nl ?_)
     refine op 17 ?_
     refine kt (clone47 ((p.funs.getD k default).code.getD i default).args hia) ?_
     rintro t54 S54 rfl
     refine nl ?_
     refine op 18 ?_
     refine y1 (nl ?_)
     refine op 19 ?_
     refine y1 (nl ?_)
     refine op 20 ?_
     refine y1 (nl ?_)
     refine dn ?_
     rw [set_args (by omega)]
     refine rg (y2 (nl ?_))
     refine ⟨i + 1, by omega, by omega, sbZ, rfl⟩
    refine y1 (nl ?_)
    refine wp2 5 17 ?_ ?_
    ·refine Y1 (lw (hr := fun hg => set_get _ (by rw [len_funs]; omega))) (nl ?_)
     refine op 17 ?_
     refine kt (clone47 ((p.funs.getD k default).code.getD i default).args hia) ?_
     rintro t54 S54 rfl
     refine nl ?_
     refine op 18 ?_
     refine y1 (nl ?_)
     refine op 19 ?_
     refine y1 (nl ?_)
     refine op 20 ?_
     refine y1 (nl ?_)
     refine dn ?_
     rw [set_args (by omega)]
     refine rg (y2 (nl ?_))
     refine ⟨i + 1, by omega, by omega, sbZ, rfl⟩
    refine kt (clone47 ((p.funs.getD k default).code.getD i default).args hia) ?_
    rintro t54 S54 rfl
    refine nl ?_
    refine op 5 ?_
    refine Y1 (lw (hr := fun hg => set_get _ (by rw [len_funs]; omega))) (nl ?_)
    refine op 18 ?_
    refine y1 (nl ?_)
    refine op 19 ?_
    refine y1 (nl ?_)
    refine op 20 ?_
    refine y1 (nl ?_)
    refine dn ?_
    rw [set_args (by omega)]
    refine rg (y2 (nl ?_))
    refine ⟨i + 1, by omega, by omega, sbZ, rfl⟩
   refine Y1 (lw (hr := fun hg => set_get _ (by rw [len_funs]; omega))) (nl ?_)
   refine tp 14 ?_
   refine tp 15 ?_
   refine wp2 1 16 ?_ ?_
   ·refine y1 (nl ?_)
    refine tp 3 ?_
    refine tp 4 ?_
    refine wp2 5 16 ?_ ?_
    ·refine Y1 (lw (hr := fun hg => set_get _ (by rw [len_funs]; omega))) (nl ?_)
     refine op 16 ?_
     refine y1 (nl ?_)
     refine op 17 ?_
     refine kt (clone47 ((p.funs.getD k default).code.getD i default).args hia) ?_
     rintro t54 S54 rfl
     refine nl ?_
     refine op 18 ?_
     refine y1 (nl ?_)
     refine op 19 ?_
     refine y1 (nl ?_)
     refine op 20 ?_
     refine y1 (nl ?_)
     refine dn ?_
     rw [set_args (by omega)]
     refine rg (y2 (nl ?_))
     refine ⟨i + 1, by omega, by omega, sbZ, rfl⟩
    refine y1 (nl ?_)
    refine wp2 5 17 ?_ ?_
    ·refine Y1 (lw (hr := fun hg => set_get _ (by rw [len_funs]; omega))) (nl ?_)
     refine op 17 ?_
     refine kt (clone47 ((p.funs.getD k default).code.getD i default).args hia) ?_
     rintro t54 S54 rfl
     refine nl ?_
     refine op 18 ?_
     refine y1 (nl ?_)
     refine op 19 ?_
     refine y1 (nl ?_)
     refine op 20 ?_
     refine y1 (nl ?_)
     refine dn ?_
     rw [set_args (by omega)]
     refine rg (y2 (nl ?_))
     refine ⟨i + 1, by omega, by omega, sbZ, rfl⟩
    refine kt (clone47 ((p.funs.getD k default).code.getD i default).args hia) ?_
    rintro t54 S54 rfl
    refine nl ?_
    refine op 5 ?_
    refine Y1 (lw (hr := fun hg => set_get _ (by rw [len_funs]; omega))) (nl ?_)
    refine op 18 ?_
    refine y1 (nl ?_)
    refine op 19 ?_
    refine y1 (nl ?_)
    refine op 20 ?_
    refine y1 (nl ?_)
    refine dn ?_
    rw [set_args (by omega)]
    refine rg (y2 (nl ?_))
    refine ⟨i + 1, by omega, by omega, sbZ, rfl⟩
   refine y1 (nl ?_)
   refine wp2 1 17 ?_ ?_
   ·refine y1 (nl ?_)
    refine tp 3 ?_
    refine tp 4 ?_
    refine wp2 5 17 ?_ ?_
    ·refine Y1 (lw (hr := fun hg => set_get _ (by rw [len_funs]; omega))) (nl ?_)
     refine op 17 ?_
     refine kt (clone47 ((p.funs.getD k default).code.getD i default).args hia) ?_
     rintro t54 S54 rfl
     refine nl ?_
     refine op 18 ?_
     refine y1 (nl ?_)
     refine op 19 ?_
     refine y1 (nl ?_)
     refine op 20 ?_
     refine y1 (nl ?_)
     refine dn ?_
     rw [set_args (by omega)]
     refine rg (y2 (nl ?_))
     refine ⟨i + 1, by omega, by omega, sbZ, rfl⟩
    refine kt (clone47 ((p.funs.getD k default).code.getD i default).args hia) ?_
    rintro t54 S54 rfl
    refine nl ?_
    refine op 5 ?_
    refine Y1 (lw (hr := fun hg => set_get _ (by rw [len_funs]; omega))) (nl ?_)
    refine op 18 ?_
    refine y1 (nl ?_)
    refine op 19 ?_
    refine y1 (nl ?_)
    refine op 20 ?_
    refine y1 (nl ?_)
    refine dn ?_
    rw [set_args (by omega)]
    refine rg (y2 (nl ?_))
    refine ⟨i + 1, by omega, by omega, sbZ, rfl⟩
   refine kt (clone47 ((p.funs.getD k default).code.getD i default).args hia) ?_
   rintro t54 S54 rfl
   refine nl ?_
   refine op 1 ?_
   refine y1 (nl ?_)
   refine op 3 ?_
   refine y1 (nl ?_)
   refine op 4 ?_
   refine y1 (nl ?_)
   refine op 5 ?_
   refine Y1 (lw (hr := fun hg => set_get _ (by rw [len_funs]; omega))) (nl ?_)
   refine op 18 ?_
   refine y1 (nl ?_)
   refine op 19 ?_
   refine y1 (nl ?_)
   refine op 20 ?_
   refine y1 (nl ?_)
   refine dn ?_
   rw [set_args (by omega)]
   refine rg (y2 (nl ?_))
   refine ⟨i + 1, by omega, by omega, sbZ, rfl⟩
  refine xt ?_
  refine AW.freezeRow 0 0 (k * 5 + 4) rfl (by decide) rfl (set_get _ (by rw [len_funs]; omega)) ?_
  refine AW.eqS (S' := [.row A1 p.funs.length c1 86 5 (p.funs.flatMap fnCells), .box b1 25 [.v (.slice A1 p.funs.length c1), .sl 1 (p.data.map u8), zi p.zero], .box b2 25 [nilT, nilT, zi 0]]) (by
   show [Ent.row _ _ _ _ _ (List.set _ _ _), _, _] = _
   rw [set_same hk]) ?_
  refine rg (y2 (nl ?_))
  refine ⟨k + 1, by omega, by omega, sbZ, rfl⟩
 refine xt ?_
 refine AW.freezeCell 0 0 0 rfl (by decide) rfl rfl ?_
 refine rs (y2 ?_)
 refine kt (clone48 p.data hpd) ?_
 rintro t61 S61 rfl
 refine y2 ?_
 refine nl (rs (y2 (nl ?_)))
 refine AW.ret (retI (.cellA (i := 1) rfl ag_25 rfl rfl rfl .nil) ?_)
 rfl


theorem open31_ (s : Nat) (x : PS) (fi : Nat) (args : List Wd64) (d : Int) (C : Option Addr) (n c : Nat) (cs : List T) (R K : Nat) (hf : fi < x.prog.funs.length) (hpf : x.prog.funs.length ≤ 1048576) (hR : (x.prog.funs.getD fi default).regs = (R : Int)) (hK : (x.prog.funs.getD fi default).slots = (K : Int)) (hR1 : R ≤ 65536) (hK1 : K ≤ 1048576) (ha : args.length ≤ R) (hn : n ≤ 1048576) :
    ACalls Tryz.prog 29 [pv s, .v (.int .i64 (fi : Int)), .sl 1 (args.map zw), zi d] [.box s 83 (psC x (.v (.slice C n c))), .row C n c 104 7 cs] (fun t S => t = .tup [] ∧ ∃ g c' a, S = [.box s 83 (psC x (.v (.slice (sg g) (n + 1) c'))), .row (sg g) (n + 1) c' 104 7 (cs ++ frC ⟨fi, 0, R, K, rJ args R args.length, List.replicate K 0#64, sJ R args.length, List.replicate K false, d⟩ a)] ++ frR ⟨fi, 0, R, K, rJ args R args.length, List.replicate K 0#64, sJ R args.length, List.replicate K false, d⟩ a) := by
 have hpR : Pin (zi (x.prog.funs.getD fi default).regs) (.int .i64 (R : Int)) := by rw [hR]; exact pinV
 have hpK : Pin (zi (x.prog.funs.getD fi default).slots) (.int .i64 (K : Int)) := by rw [hK]; exact pinV
 refine ai Tryz.func29 Tryz.ntmps29 fun X w0 => ?_
 refine rs (y8 ?_)
 refine bx fun b8 => ?_
 refine y1 (nl ?_)
 refine AW.rseqH (HeldCs [(b8, 2, Value.int .i64 (R : Int)), (b8, 3, Value.int .i64 (K : Int))]) rfl (tells_cs (tcB 2 rfl rfl hpR (tcB 2 rfl rfl hpK tc0))) ?_
 refine tq 0 ?_
 refine tq 1 ?_
 refine tq 2 ?_
 refine tq 4 ?_
 refine tq 5 ?_
 refine tq 7 ?_
 refine tq 8 ?_
 refine tq 10 ?_
 refine tq 11 ?_
 refine tq 13 ?_
 refine AWH.free [⟨3, some 23, [], [3], (fun l => .v (.slice (l.getD 0 default).1 R R)), (fun _ => True)⟩, ⟨6, some 26, [], [6], (fun l => .v (.slice (l.getD 0 default).1 K K)), (fun _ => True)⟩, ⟨9, some 29, [], [9], (fun l => .v (.slice (l.getD 0 default).1 R R)), (fun _ => True)⟩, ⟨12, some 32, [], [12], (fun l => .v (.slice (l.getD 0 default).1 K K)), (fun _ => True)⟩, ⟨14, some 34, [3, 6, 9, 12], [3, 6, 9, 12], (fun l => .agg (frC ⟨fi, 0, R, K, rJ args R 0, List.replicate K 0#64, sJ R 0, List.replicate K false, d⟩ ⟨(l.getD 0 default).1, (l.getD 1 default).1, (l.getD 2 default).1, (l.getD 3 default).1⟩)), (fun _ => True)⟩, ⟨15, some 9, [], [15], (fun l => .v (.pointer (some ⟨(l.getD 0 default).2, 0, none⟩))), (fun _ => True)⟩, ⟨16, none, [3, 6, 9, 12, 14, 15], [], (fun _ => .v (.bool false)), (fun _ => True)⟩] [⟨3, [3], (fun l => .row (l.getD 0 default).1 R R 29 1 ((rJ args R 0).map zw)), 999, [3], (fun l => .row (l.getD 0 default).1 R R 29 1 ((rJ args R 0).map zw))⟩, ⟨6, [6], (fun l => .row (l.getD 0 default).1 K K 29 1 ((List.replicate K 0#64).map zw)), 999, [6], (fun l => .row (l.getD 0 default).1 K K 29 1 ((List.replicate K 0#64).map zw))⟩, ⟨9, [9], (fun l => .row (l.getD 0 default).1 R R 4 1 ((sJ R 0).map bv)), 999, [9], (fun l => .row (l.getD 0 default).1 R R 4 1 ((sJ R 0).map bv))⟩, ⟨12, [12], (fun l => .row (l.getD 0 default).1 K K 4 1 ((List.replicate K false).map bv)), 999, [12], (fun l => .row (l.getD 0 default).1 K K 4 1 ((List.replicate K false).map bv))⟩, ⟨15, [15], (fun l => .box (l.getD 0 default).2 104 [zi 0, zi 0, nilT, nilT, nilT, nilT, zi 0]), 16, [3, 6, 9, 12, 15], (fun l => .box (l.getD 4 default).2 104 (frC ⟨fi, 0, R, K, rJ args R 0, List.replicate K 0#64, sJ R 0, List.replicate K false, d⟩ ⟨(l.getD 0 default).1, (l.getD 1 default).1, (l.getD 2 default).1, (l.getD 3 default).1⟩))⟩] 0 #[true, true, true, true, true, true, true, true, true, true, true, true, true, true, true, true, true] (ι := Option Addr × Option Addr × Option Addr × Option Addr × Nat) (fun ⟨A23, A26, A29, A32, b9⟩ => [(9, true, pv b9), (0, true, pv s), (1, true, .v (.int .i64 (fi : Int))), (2, true, .sl 1 (args.map zw)), (3, true, zi d), (8, true, pv b8)]) (fun ⟨A23, A26, A29, A32, b9⟩ => (.row A23 R R 29 1 ((rJ args R 0).map zw) :: .row A26 K K 29 1 ((List.replicate K 0#64).map zw) :: .row A29 R R 4 1 ((sJ R 0).map bv) :: .row A32 K K 4 1 ((List.replicate K false).map bv) :: .box b9 104 (frC ⟨fi, 0, R, K, rJ args R 0, List.replicate K 0#64, sJ R 0, List.replicate K false, d⟩ ⟨A23, A26, A29, A32⟩) :: .box s 83 (psC x (.v (.slice C n c))) :: .row C n c 104 7 cs :: .box b8 86 (fnCells (x.prog.funs.getD fi default)) :: [])) (fun ⟨A23, A26, A29, A32, b9⟩ => True) rfl (by kernel_rfl) (by kernel_rfl) (tcB 2 rfl rfl hpR (tcB 2 rfl rfl hpK tc0)) ?_ ?_ ?_
 ·refine obC rfl (fun γ env X hS hv => ?_) ?_
  ·refine AWL.makeRow (n := R) (c := R) rfl rfl (B rfl) rfl el_30 (Es hS (E rfl rfl)) (Es hS (E rfl rfl)) (Nat.le_refl _) (by omega) (by unfold maxLen; omega) (fun A23 => ?_)
   refine AWL.eqLast (zero_r args R) ?_
   exact AWL.nil (frA (A23, 0) trivial rfl (List.perm_append_singleton _ _))
  refine obC rfl (fun γ env X hS hv => ?_) ?_
  ·refine AWL.makeRow (n := K) (c := K) rfl rfl (B rfl) rfl el_30 (Es hS (E rfl rfl)) (Es hS (E rfl rfl)) (Nat.le_refl _) (by omega) (by unfold maxLen; omega) (fun A26 => ?_)
   refine AWL.eqLast (mk_zero K) ?_
   exact AWL.nil (frA (A26, 0) trivial rfl (List.perm_append_singleton _ _))
  refine obC rfl (fun γ env X hS hv => ?_) ?_
  ·refine AWL.makeRow (n := R) (c := R) rfl rfl (B rfl) rfl el_102 (Es hS (E rfl rfl)) (Es hS (E rfl rfl)) (Nat.le_refl _) (by omega) (by unfold maxLen; omega) (fun A29 => ?_)
   refine AWL.eqLast (zero_s R) ?_
   exact AWL.nil (frA (A29, 0) trivial rfl (List.perm_append_singleton _ _))
  refine obC rfl (fun γ env X hS hv => ?_) ?_
  ·refine AWL.makeRow (n := K) (c := K) rfl rfl (B rfl) rfl el_102 (Es hS (E rfl rfl)) (Es hS (E rfl rfl)) (Nat.le_refl _) (by omega) (by unfold maxLen; omega) (fun A32 => ?_)
   refine AWL.eqLast (zero_b K) ?_
   exact AWL.nil (frA (A32, 0) trivial rfl (List.perm_append_singleton _ _))
  refine obC rfl (fun γ env X hS hv => ?_) ?_
  ·refine Y1 (Yv.buildS rfl sh_104 (evpC (Es hS eV) (evpC (Es hS eV) (evpC (Es hS eV) (evpC (Es hS eV) (evpC (Es hS eV) (evpC (Es hS eV) evp0)))))) (fun _ => rfl)) ?_
   exact AWL.nil (frA (none, 0) trivial rfl (.refl _))
  refine obC rfl (fun γ env X hS hv => ?_) ?_
  ·refine bx fun b9 => ?_
   exact AWL.nil (frA (none, b9) trivial rfl (List.perm_append_singleton _ _))
  refine obC rfl (fun γ env X hS hv => ?_) ?_
  ·refine AWL.storeBox (i := 0) rfl rfl rfl ag_104 rfl (Es hS (E rfl rfl)) (Es hS (E rfl rfl)) rfl rfl nB ?_
   exact AWL.nil (frA (none, 0) trivial rfl (.refl _))
  trivial
 ·exact fun γ hi => ⟨((γ 3).1, (γ 6).1, (γ 9).1, (γ 12).1, (γ 15).2), trivial, sbZ, rfl⟩
 rintro ⟨A23, A26, A29, A32, b9⟩ _
 refine dn ?_
 refine AW.dropAt 7 ?_
 refine sq (rs (y3 ?_))
 refine nl (bk ?_)
 refine lp1 (fun (j : Nat) => [(0, true, pv s), (9, true, pv b9), (35, true, .sl 1 (args.map zw)), (36, true, .v (.int .i64 (args.length : Int))), (37, true, zv j)]) (fun (j : Nat) => [.row A23 R R 29 1 ((rJ args R j).map zw), .row A26 K K 29 1 ((List.replicate K 0#64).map zw), .row A29 R R 4 1 ((sJ R j).map bv), .row A32 K K 4 1 ((List.replicate K false).map bv), .box b9 104 (frC ⟨fi, 0, R, K, rJ args R 0, List.replicate K 0#64, sJ R 0, List.replicate K false, d⟩ ⟨A23, A26, A29, A32⟩), .box s 83 (psC x (.v (.slice C n c))), .row C n c 104 7 cs]) (fun (j : Nat) => j ≤ args.length) (fun (j : Nat) => args.length - j) 0 ?_ ?_
 ·exact Nat.zero_le _
 intro j hinv
 refine rs (y1 ?_)
 refine nl (sq ?_)
 refine cq (fun _ => ?_) fun _ => ?_
 ·refine sp (sq (bk (rs (y5 (nl ?_)))))
  refine AW.regionH (HeldCs [(b9, 2, Value.slice A23 R R), (b9, 4, Value.slice A29 R R)]) rfl (tells_cs tcA) ?_
  refine tq 0 ?_
  refine tq 1 ?_
  refine tq 2 ?_
  refine tq 3 ?_
  refine tq 4 ?_
  refine tq 5 ?_
  refine oh 6 ?_
  refine y1 ?_
  refine kh ?_
  refine oh 7 ?_
  refine y1 ?_
  refine kh ?_
  refine oh 8 ?_
  refine AWL.storeEp1 (i := 0) rfl rfl rfl ag_29 rfl (E rfl rfl) (E rfl rfl) rfl rfl (by first | (rw [List.length_map, rj_len (by omega) ha]; omega) | (rw [List.length_map, sj_len (by omega)]; omega)) ?_
  refine kh ?_
  refine oh 9 ?_
  refine y1 ?_
  refine kh ?_
  refine oh 10 ?_
  refine AWL.storeEp1 (i := 2) rfl rfl rfl ag_4 rfl (E rfl rfl) (E rfl rfl) rfl rfl (by first | (rw [List.length_map, rj_len (by omega) ha]; omega) | (rw [List.length_map, sj_len (by omega)]; omega)) ?_
  refine kh ?_
  refine dn ?_
  refine rg (y2 (nl ?_))
  refine ⟨j + 1, by omega, by omega, sbZ, ?_⟩
  rw [← rj_succ (show j < args.length by omega) ha, ← sj_succ (show j < R by omega)]
  rfl
 obtain rfl : j = args.length := by omega
 refine xt ?_
 refine AW.regionP rfl ?_
 refine tp 0 ?_
 refine tp 1 ?_
 refine tp 2 ?_
 refine tp 3 ?_
 refine wp2 4 5 ?_ ?_
 ·refine y1 (nl ?_)
  refine op 5 ?_
  refine y1 (nl ?_)
  refine op 6 ?_
  refine AWL.buildSliceE rfl rfl (B rfl) rfl el_81 (B rfl) rfl (evsC (E rfl rfl) evs0) nB rfl rfl (nl ?_)
  refine op 7 ?_
  refine AWL.appendRow (i := 6) rfl rfl (B rfl) rfl el_81 (B rfl) rfl (E rfl rfl) (SrcT.sl so_81 (B rfl) (E rfl rfl) rfl) (by unfold maxLen; omega) (by omega) (fun A59 c59 => ?_)
  refine nl ?_
  refine op 8 ?_
  refine y1 (nl ?_)
  refine op 9 ?_
  refine y1 (nl ?_)
  refine op 10 ?_
  refine y1 ?_
  refine AWL.rowSome 6 rfl (Nat.mul_pos (Nat.succ_pos _) (by decide)) (fun g59 hg59 => ?_)
  subst hg59
  refine AWL.dropAt 4 ?_
  refine AWL.perm (S' := [.box s 83 (psC x (.v (.slice (sg g59) (n + 1) c59))), .row (sg g59) (n + 1) c59 104 7 (cs ++ frC ⟨fi, 0, R, K, rJ args R args.length, List.replicate K 0#64, sJ R args.length, List.replicate K false, d⟩ ⟨A23, A26, A29, A32⟩), .row A23 R R 29 1 ((rJ args R args.length).map zw), .row A26 K K 29 1 ((List.replicate K 0#64).map zw), .row A29 R R 4 1 ((sJ R args.length).map bv), .row A32 K K 4 1 ((List.replicate K false).map bv)]) (List.perm_append_comm (l₁ := ([.box s 83 (psC x (.v (.slice (sg g59) (n + 1) c59))), .row (sg g59) (n + 1) c59 104 7 (cs ++ frC ⟨fi, 0, R, K, rJ args R args.length, List.replicate K 0#64, sJ R args.length, List.replicate K false, d⟩ ⟨A23, A26, A29, A32⟩)] : St)) (l₂ := [.row A23 R R 29 1 ((rJ args R args.length).map zw), .row A26 K K 29 1 ((List.replicate K 0#64).map zw), .row A29 R R 4 1 ((sJ R args.length).map bv), .row A32 K K 4 1 ((List.replicate K false).map bv)])) (nl ?_)
  refine dn ?_
  refine retN .nil ?_
  exact ⟨rfl, g59, c59, ⟨A23, A26, A29, A32⟩, rfl⟩
 refine y1 (nl ?_)
 refine wp2 4 6 ?_ ?_
 ·refine y1 (nl ?_)
  refine op 6 ?_
  refine AWL.buildSliceE rfl rfl (B rfl) rfl el_81 (B rfl) rfl (evsC (E rfl rfl) evs0) nB rfl rfl (nl ?_)
  refine op 7 ?_
  refine AWL.appendRow (i := 6) rfl rfl (B rfl) rfl el_81 (B rfl) rfl (E rfl rfl) (SrcT.sl so_81 (B rfl) (E rfl rfl) rfl) (by unfold maxLen; omega) (by omega) (fun A59 c59 => ?_)
  refine nl ?_
  refine op 8 ?_
  refine y1 (nl ?_)
  refine op 9 ?_
  refine y1 (nl ?_)
  refine op 10 ?_
  refine y1 ?_
  refine AWL.rowSome 6 rfl (Nat.mul_pos (Nat.succ_pos _) (by decide)) (fun g59 hg59 => ?_)
  subst hg59
  refine AWL.dropAt 4 ?_
  refine AWL.perm (S' := [.box s 83 (psC x (.v (.slice (sg g59) (n + 1) c59))), .row (sg g59) (n + 1) c59 104 7 (cs ++ frC ⟨fi, 0, R, K, rJ args R args.length, List.replicate K 0#64, sJ R args.length, List.replicate K false, d⟩ ⟨A23, A26, A29, A32⟩), .row A23 R R 29 1 ((rJ args R args.length).map zw), .row A26 K K 29 1 ((List.replicate K 0#64).map zw), .row A29 R R 4 1 ((sJ R args.length).map bv), .row A32 K K 4 1 ((List.replicate K false).map bv)]) (List.perm_append_comm (l₁ := ([.box s 83 (psC x (.v (.slice (sg g59) (n + 1) c59))), .row (sg g59) (n + 1) c59 104 7 (cs ++ frC ⟨fi, 0, R, K, rJ args R args.length, List.replicate K 0#64, sJ R args.length, List.replicate K false, d⟩ ⟨A23, A26, A29, A32⟩)] : St)) (l₂ := [.row A23 R R 29 1 ((rJ args R args.length).map zw), .row A26 K K 29 1 ((List.replicate K 0#64).map zw), .row A29 R R 4 1 ((sJ R args.length).map bv), .row A32 K K 4 1 ((List.replicate K false).map bv)])) (nl ?_)
  refine dn ?_
  refine retN .nil ?_
  exact ⟨rfl, g59, c59, ⟨A23, A26, A29, A32⟩, rfl⟩
 refine AWL.buildSliceE rfl rfl (B rfl) rfl el_81 (B rfl) rfl (evsC (E rfl rfl) evs0) nB rfl rfl (nl ?_)
 refine op 4 ?_
 refine y1 (nl ?_)
 refine op 7 ?_
 refine AWL.appendRow (i := 6) rfl rfl (B rfl) rfl el_81 (B rfl) rfl (E rfl rfl) (SrcT.sl so_81 (B rfl) (E rfl rfl) rfl) (by unfold maxLen; omega) (by omega) (fun A59 c59 => ?_)
 refine nl ?_
 refine op 8 ?_
 refine y1 (nl ?_)
 refine op 9 ?_
 refine y1 (nl ?_)
 refine op 10 ?_
 refine y1 ?_
 refine AWL.rowSome 6 rfl (Nat.mul_pos (Nat.succ_pos _) (by decide)) (fun g59 hg59 => ?_)
 subst hg59
 refine AWL.dropAt 4 ?_
 refine AWL.perm (S' := [.box s 83 (psC x (.v (.slice (sg g59) (n + 1) c59))), .row (sg g59) (n + 1) c59 104 7 (cs ++ frC ⟨fi, 0, R, K, rJ args R args.length, List.replicate K 0#64, sJ R args.length, List.replicate K false, d⟩ ⟨A23, A26, A29, A32⟩), .row A23 R R 29 1 ((rJ args R args.length).map zw), .row A26 K K 29 1 ((List.replicate K 0#64).map zw), .row A29 R R 4 1 ((sJ R args.length).map bv), .row A32 K K 4 1 ((List.replicate K false).map bv)]) (List.perm_append_comm (l₁ := ([.box s 83 (psC x (.v (.slice (sg g59) (n + 1) c59))), .row (sg g59) (n + 1) c59 104 7 (cs ++ frC ⟨fi, 0, R, K, rJ args R args.length, List.replicate K 0#64, sJ R args.length, List.replicate K false, d⟩ ⟨A23, A26, A29, A32⟩)] : St)) (l₂ := [.row A23 R R 29 1 ((rJ args R args.length).map zw), .row A26 K K 29 1 ((List.replicate K 0#64).map zw), .row A29 R R 4 1 ((sJ R args.length).map bv), .row A32 K K 4 1 ((List.replicate K false).map bv)])) (nl ?_)
 refine dn ?_
 refine retN .nil ?_
 exact ⟨rfl, g59, c59, ⟨A23, A26, A29, A32⟩, rfl⟩

theorem open31 (s : Nat) (x : PS) (fi : Nat) (args : List Wd64) (d : Int) (C : Option Addr) (n c : Nat) (cs : List T) (hf : fi < x.prog.funs.length) (hpf : x.prog.funs.length ≤ 1048576) (h0 : 0 ≤ (x.prog.funs.getD fi default).regs) (h1 : (x.prog.funs.getD fi default).regs ≤ 65536) (k0 : 0 ≤ (x.prog.funs.getD fi default).slots) (k1 : (x.prog.funs.getD fi default).slots ≤ 1048576) (ha : (args.length : Int) ≤ (x.prog.funs.getD fi default).regs) (hn : n ≤ 1048576) :
    ACalls Tryz.prog 29 [pv s, .v (.int .i64 (fi : Int)), .sl 1 (args.map zw), zi d] [.box s 83 (psC x (.v (.slice C n c))), .row C n c 104 7 cs] (fun t S => t = .tup [] ∧ ∃ g c' a, S = [.box s 83 (psC x (.v (.slice (sg g) (n + 1) c'))), .row (sg g) (n + 1) c' 104 7 (cs ++ frC (openFr (x.prog.funs.getD fi default) fi args d) a)] ++ frR (openFr (x.prog.funs.getD fi default) fi args d) a) :=
 open31_ s x fi args d C n c cs _ _ hf hpf (by omega) (by omega) (by omega) (by omega) (by omega) hn
def wI (z : Int) : Wd64 := BitVec.ofInt 64 z
def sI (a : Wd64) : Int := IntKind.i64.wrap (a.toNat : Int)
theorem wI_nat (z : Int) : ((wI z).toNat : Int) = IntKind.u64.wrap z := by
 rw [wrap_u64, wI, BitVec.toNat_ofInt]
 omega
section
variable {cx : Cx} {env : Env} {S : St} {o : Oper} {g : Bool} {x y : Operand}
theorem Yv.convW {src dst : TypeId} {k : IntKind} {p : Int} {d : TypeDesc} (ho : o.op = .convert src dst x) (hs : cx.P.underlying src = some d) (hd : kindOf cx.P dst = some .u64) (hx : Ev env g x (.v (.int k p))) : Yv cx o env S g (zw (wI p)) := by
 have h := Yv.conv (cx := cx) (S := S) ho hs hd hx
 rw [← wI_nat] at h; exact h
theorem Yv.quoW {ty yt : TypeId} {a b : Wd64} (ho : o.op = .binOp .quo ty x y yt) (hx : Ev env g x (zw a)) (hy : Ev env g y (zw b)) (hb : b ≠ 0#64) : Yv cx o env S g (zw (a / b)) := by
 have hb' : (b.toNat : Int) ≠ 0 := fun h => hb (BitVec.eq_of_toNat_eq (by simpa using h))
 have h := Yv.quo (cx := cx) (S := S) ho hx hy (fun _ => hb')
 rw [show (a.toNat : Int).tdiv (b.toNat : Int) = ((a / b).toNat : Int) by rw [BitVec.toNat_udiv]; exact Int.natCast_ediv _ _ ▸ (Int.tdiv_eq_ediv_of_nonneg (Int.natCast_nonneg _)), wrap_nat] at h
 exact h
theorem Yv.remW {ty yt : TypeId} {a b : Wd64} (ho : o.op = .binOp .rem ty x y yt) (hx : Ev env g x (zw a)) (hy : Ev env g y (zw b)) (hb : b ≠ 0#64) : Yv cx o env S g (zw (a % b)) := by
 have hb' : (b.toNat : Int) ≠ 0 := fun h => hb (BitVec.eq_of_toNat_eq (by simpa using h))
 have h := Yv.rem (cx := cx) (S := S) ho hx hy (fun _ => hb')
 rw [show (a.toNat : Int).tmod (b.toNat : Int) = ((a % b).toNat : Int) by rw [BitVec.toNat_umod]; exact Int.natCast_emod _ _ ▸ (Int.tmod_eq_emod_of_nonneg (Int.natCast_nonneg _))] at h
 exact h
end
def hiF (x y : Wd64) : Wd64 :=
 (x >>> 32) * (y >>> 32) + (((x >>> 32) * (y &&& 4294967295#64) + (((x &&& 4294967295#64) * (y &&& 4294967295#64)) >>> 32)) >>> 32) +
  ((((x >>> 32) * (y &&& 4294967295#64) + (((x &&& 4294967295#64) * (y &&& 4294967295#64)) >>> 32)) &&& 4294967295#64) + (x &&& 4294967295#64) * (y >>> 32)) >>> 32
def holdsF (c : Int) (a b : Wd64) : Bool :=
 if c = 1 then decide (a = b) else if c = 2 then !decide (a = b) else if c = 3 then decide (sI a < sI b) else if c = 4 then decide (sI a ≤ sI b) else if c = 5 then decide (a < b) else decide (a ≤ b)
def truthF (b : Bool) : Wd64 := if b = true then 1#64 else 0#64
def rA (x : Fr) (r : Int) : Wd64 := x.r.getD r.toNat 0#64
def valueF (R : Int → Wd64 → Wd64 → Wd64) (heap : Wd64) (x : Fr) (i : Ins) : Wd64 × Bool :=
 if i.kind = 1 then (wI i.imm, true)
 else if i.kind = 27 then (268435456#64 + wI i.imm, true)
 else if i.kind = 28 then (4194304#64 + 16#64 * wI i.f, true)
 else if i.kind = 29 then (heap, true)
 else if i.kind = 31 then (x.slot.getD i.imm.toNat 0#64, x.there.getD i.imm.toNat default)
 else if i.kind = 2 then (rA x i.a, true)
 else if i.kind = 3 then (rA x i.a + rA x i.b, true)
 else if i.kind = 4 then (rA x i.a - rA x i.b, true)
 else if i.kind = 5 then (rA x i.a * rA x i.b, true)
 else if i.kind = 6 then (hiF (rA x i.a) (rA x i.b), true)
 else if i.kind = 9 then (rA x i.a &&& rA x i.b, true)
 else if i.kind = 10 then (rA x i.a ||| rA x i.b, true)
 else if i.kind = 11 then (rA x i.a ^^^ rA x i.b, true)
 else if i.kind = 12 then (rA x i.a <<< (rA x i.b &&& 63#64).toNat, true)
 else if i.kind = 13 then (rA x i.a >>> (rA x i.b &&& 63#64).toNat, true)
 else if i.kind = 14 then (wI (shrOf .i64 (sI (rA x i.a)) ((rA x i.b &&& 63#64).toNat : Int)), true)
 else if i.kind = 15 then (truthF (holdsF i.cond (rA x i.a) (rA x i.b)), true)
 else if i.kind = 16 then (R i.real (rA x i.a) (rA x i.b), true)
 else if rA x i.b = 0#64 then (0#64, false)
 else if i.kind = 7 then (rA x i.a / rA x i.b, true)
 else (rA x i.a % rA x i.b, true)
theorem lt63 (b : Wd64) : (b &&& 63#64).toNat < 64 := by
 rw [BitVec.toNat_and]
 exact Nat.lt_of_le_of_lt Nat.and_le_right (by decide)
def valK (k : Int) : Prop := 1 ≤ k ∧ k ≤ 16 ∨ k = 27 ∨ k = 28 ∨ k = 29 ∨ k = 31
theorem has_ab {k : Int} (h : 3 ≤ k) (h' : k ≤ 16) : (hasF k).a = true ∧ (hasF k).b = true := by
 unfold hasF ofF
 rw [if_neg (by omega), if_neg (by omega)]
 by_cases h15 : k = 15
 ·rw [if_neg (by omega), if_pos h15]; exact ⟨rfl, rfl⟩
 rw [if_pos (by omega)]; exact ⟨rfl, rfl⟩
structure FrOk (x : Fr) : Prop where
 r : x.r.length = x.nr
 s : x.slot.length = x.ns
 t : x.set.length = x.nr
 h : x.there.length = x.ns
section
variable {pre : List T} {x : Fr} {a : FA}
theorem fr_at (i : Nat) : (pre ++ frC x a)[pre.length + i]? = (frC x a)[i]? := by rw [List.getElem?_append_right (by omega), Nat.add_sub_cancel_left]
theorem fr0 : (pre ++ frC x a)[pre.length + 0]? = some (zi x.f) := fr_at 0
theorem fr1 : (pre ++ frC x a)[pre.length + 1]? = some (zi x.at_) := fr_at 1
theorem fr2 : (pre ++ frC x a)[pre.length + 2]? = some (.v (.slice a.r x.nr x.nr)) := fr_at 2
theorem fr3 : (pre ++ frC x a)[pre.length + 3]? = some (.v (.slice a.s x.ns x.ns)) := fr_at 3
theorem fr4 : (pre ++ frC x a)[pre.length + 4]? = some (.v (.slice a.t x.nr x.nr)) := fr_at 4
theorem fr5 : (pre ++ frC x a)[pre.length + 5]? = some (.v (.slice a.h x.ns x.ns)) := fr_at 5
theorem fr6 : (pre ++ frC x a)[pre.length + 6]? = some (zi x.d) := fr_at 6
theorem fr_len : (pre ++ frC x a).length = pre.length + 7 := by rw [List.length_append]; rfl
theorem fr_set (i : Nat) (t : T) : (pre ++ frC x a).set (pre.length + i) t = pre ++ (frC x a).set i t := by
 rw [List.set_append_right _ _ (by omega), Nat.add_sub_cancel_left]
theorem fr_jump (z : Int) : (pre ++ frC x a).set (pre.length + 1) (zi z) = pre ++ frC { x with at_ := z } a := fr_set 1 _
end
def okS (set : List Bool) (l : List Int) : Bool := l.all fun r => set.getD r.toNat default
theorem okS_one (set : List Bool) (r : Int) : okS set [r] = set.getD r.toNat default := by simp [okS]
theorem okS_app (set : List Bool) (l l' : List Int) : okS set (l ++ l') = (okS set l && okS set l') := by simp [okS]
theorem okS_nil (set : List Bool) : okS set [] = true := rfl
def setD (x : Fr) (d : Int) (v : Wd64) : Fr := { x with r := x.r.set d.toNat v, set := x.set.set d.toNat true }
theorem setD_ok {x : Fr} (h : FrOk x) (d : Int) (v : Wd64) : FrOk (setD x d v) := ⟨List.length_set.trans h.r, h.s, List.length_set.trans h.t, h.h⟩
theorem setD_rows (x : Fr) (a : FA) (d : Int) (v : Wd64) : frR (setD x d v) a = [.row a.r x.nr x.nr 29 1 ((x.r.map zw).set (d.toNat * 1) (zw v)), .row a.s x.ns x.ns 29 1 (x.slot.map zw), .row a.t x.nr x.nr 4 1 ((x.set.map bv).set (d.toNat * 1) (bv true)), .row a.h x.ns x.ns 4 1 (x.there.map bv)] := by
 unfold frR setD
 rw [Nat.mul_one, ← List.map_set, ← List.map_set]
def backP (ps : PS) (v : Wd64) : PS := if ps.ent = true then { ps with st := 3, ans := v } else { ps with st := 1, code := IntKind.i64.wrap ((v &&& 255#64).toNat : Int) }
def putF (x : Fr) (i : Ins) : Fr := { x with slot := x.slot.set i.imm.toNat (rA x i.a), there := x.there.set i.imm.toNat true }
theorem putF_rows (x : Fr) (a : FA) (i : Ins) : frR (putF x i) a = [.row a.r x.nr x.nr 29 1 (x.r.map zw), .row a.s x.ns x.ns 29 1 ((x.slot.map zw).set (i.imm.toNat * 1) (zw (rA x i.a))), .row a.t x.nr x.nr 4 1 (x.set.map bv), .row a.h x.ns x.ns 4 1 ((x.there.map bv).set (i.imm.toNat * 1) (bv true))] := by
 unfold frR putF
 rw [Nat.mul_one, ← List.map_set, ← List.map_set]
theorem putF_ok {x : Fr} (h : FrOk x) (i : Ins) : FrOk (putF x i) := ⟨h.r, List.length_set.trans h.s, h.t, List.length_set.trans h.h⟩
def goF (x : Fr) : Fr := { x with at_ := x.at_ + 1 }
theorem goF_ok {x : Fr} (h : FrOk x) : FrOk (goF x) := ⟨h.r, h.s, h.t, h.h⟩
def stepA (R : Int → Wd64 → Wd64 → Wd64) (heap : Wd64) (x : Fr) (i : Ins) : Option Fr :=
 if okS x.set (readsF i) = false then none
 else if i.kind = 32 then some (goF (putF x i))
 else if (valueF R heap x i).2 = true then some (goF (setD x i.d (valueF R heap x i).1))
 else none
theorem has_d {k : Int} (h : valK k) : (hasF k).d = true := by
 unfold valK at h
 unfold hasF ofF
 by_cases h0 : ((k = 1 ∨ k = 27) ∨ k = 29) ∨ k = 31
 ·rw [if_pos h0]; rfl
 rw [if_neg h0]
 by_cases h2 : k = 2
 ·rw [if_pos h2]; rfl
 rw [if_neg h2]
 by_cases h3 : (3 ≤ k ∧ k ≤ 14) ∨ k = 16
 ·rw [if_pos h3]; rfl
 rw [if_neg h3]
 by_cases h4 : k = 15
 ·rw [if_pos h4]; rfl
 rw [if_neg h4, if_neg (by omega), if_neg (by omega), if_neg (by omega), if_neg (by omega), if_neg (by omega), if_neg (by omega), if_neg (by omega), if_neg (by omega), if_neg (by omega), if_pos (by omega)]; rfl
def midA (R : Int → Wd64 → Wd64 → Wd64) (heap : Wd64) (x : Fr) (i : Ins) (v : Wd64) (ok : Bool) (x1 : Fr) : Prop :=
 i.kind = 32 ∧ ok = true ∧ x1 = putF x i ∨ valK i.kind ∧ v = (valueF R heap x i).1 ∧ ok = (valueF R heap x i).2 ∧ x1 = x
section
variable {R : Int → Wd64 → Wd64 → Wd64} {heap : Wd64} {x x1 : Fr} {i : Ins} {v : Wd64} {ok : Bool}
theorem midA_ok (h : midA R heap x i v ok x1) (hx : FrOk x) : FrOk x1 ∧ x1.nr = x.nr ∧ x1.at_ = x.at_ := by
 rcases h with ⟨_, _, rfl⟩ | ⟨_, _, _, rfl⟩
 ·exact ⟨putF_ok hx i, rfl, rfl⟩
 exact ⟨hx, rfl, rfl⟩
theorem stepA_0 (h : okS x.set (readsF i) = false) : stepA R heap x i = none := by rw [stepA, if_pos h]
theorem stepA_1 (h0 : okS x.set (readsF i) = true) (h : midA R heap x i v ok x1) (hn : ok = false) : stepA R heap x i = none ∧ x1 = x := by
 rcases h with ⟨_, h, _⟩ | ⟨hk, _, h, rfl⟩
 ·rw [h] at hn; cases hn
 refine ⟨?_, rfl⟩
 rw [stepA, if_neg (by rw [h0]; decide), if_neg (fun e => by unfold valK at hk; omega), if_neg (by rw [← h, hn]; decide)]
theorem stepA_2 (h0 : okS x.set (readsF i) = true) (h : midA R heap x i v ok x1) (hn : ok = true) (hd : (hasF i.kind).d = true) : stepA R heap x i = some (goF (setD x1 i.d v)) := by
 rcases h with ⟨hk, h, _⟩ | ⟨hk, hv, h, rfl⟩
 ·rw [hk] at hd; cases hd
 rw [stepA, if_neg (by rw [h0]; decide), if_neg (fun e => by unfold valK at hk; omega), if_pos (by rw [← h, hn]), ← hv]
theorem stepA_3 (h0 : okS x.set (readsF i) = true) (h : midA R heap x i v ok x1) (hd : (hasF i.kind).d = false) : stepA R heap x i = some (goF x1) := by
 rcases h with ⟨hk, h, rfl⟩ | ⟨hk, hv, h, rfl⟩
 ·rw [stepA, if_neg (by rw [h0]; decide), if_pos hk]
 rw [has_d hk] at hd; cases hd
end

theorem holds51 (c : Int) (a b : Wd64) :
    ACalls Tryz.prog 63 [zi c, zw a, zw b] [] (fun t S => t = bv (holdsF c a b)) := by
 refine ai Tryz.func63 Tryz.ntmps63 fun X w0 => ?_
 refine rs (y1 ?_)
 refine nl (sq (rs (y1 ?_)))
 refine nl (bk (rs (y2 (nl ?_))))
 refine cq (fun _ => ?_) fun _ => ?_
 ·refine rs (y2 ?_)
  refine Y1 (Yv.eqlW rfl eV eV) ?_
  refine y1 (nl ?_)
  refine rt ?_
  rw [holdsF, if_pos (by omega)]
  rfl
 refine rs (y2 (nl ?_))
 refine cq (fun _ => ?_) fun _ => ?_
 ·refine rs (y2 ?_)
  refine Y1 (Yv.neqW rfl eV eV) ?_
  refine y1 (nl ?_)
  refine rt ?_
  rw [holdsF, if_neg (by omega), if_pos (by omega)]
  rfl
 refine rs (y2 (nl ?_))
 refine cq (fun _ => ?_) fun _ => ?_
 ·refine rs (y1 ?_)
  refine Y1 (Yv.conv rfl Tryz.underlying29 kd_2 eV) ?_
  refine y1 ?_
  refine Y1 (Yv.conv rfl Tryz.underlying29 kd_2 eV) ?_
  refine y2 (nl ?_)
  refine rt ?_
  rewrite [holdsF]
  repeat rewrite [if_neg (by omega)]
  rw [if_pos (by omega)]
  rfl
 refine rs (y2 (nl ?_))
 refine cq (fun _ => ?_) fun _ => ?_
 ·refine rs (y1 ?_)
  refine Y1 (Yv.conv rfl Tryz.underlying29 kd_2 eV) ?_
  refine y1 ?_
  refine Y1 (Yv.conv rfl Tryz.underlying29 kd_2 eV) ?_
  refine y2 (nl ?_)
  refine rt ?_
  rewrite [holdsF]
  repeat rewrite [if_neg (by omega)]
  rw [if_pos (by omega)]
  rfl
 refine rs (y2 (nl ?_))
 refine cq (fun _ => ?_) fun _ => ?_
 ·refine rs (y2 ?_)
  refine Y1 (Yv.lssW rfl eV eV) ?_
  refine y1 (nl ?_)
  refine rt ?_
  rewrite [holdsF]
  repeat rewrite [if_neg (by omega)]
  rw [if_pos (by omega)]
  rfl
 refine sp (rs (y2 ?_))
 refine Y1 (Yv.leqW rfl eV eV) ?_
 refine y1 (nl ?_)
 refine rt ?_
 rw [holdsF, if_neg (by omega), if_neg (by omega), if_neg (by omega), if_neg (by omega), if_neg (by omega)]
 rfl

theorem truth71 (b : Bool) :
    ACalls Tryz.prog 88 [bv b] [] (fun t S => t = zw (truthF b)) := by
 refine ai Tryz.func88 Tryz.ntmps88 fun X w0 => ?_
 refine rs (y1 ?_)
 refine nl (sq (rs (y1 (nl ?_))))
 refine cq (fun h0t => ?_) fun h0f => ?_
 ·refine rs (y1 (nl ?_))
  refine rt ?_
  rw [truthF, if_pos h0t]; rfl
 refine sp (rs (y1 (nl ?_)))
 refine rt ?_
 rw [truthF, if_neg (by rw [h0f]; decide)]; rfl

theorem mul70 (a b : Wd64) :
    ACalls Tryz.prog 87 [zw a, zw b] [] (fun t S => t = .tup [zw (hiF a b), zw (a * b)]) := by
 refine ai Tryz.func87 Tryz.ntmps87 fun X w0 => ?_
 refine rs (y2 ?_)
 refine nl (rs (y1 ?_))
 refine Y1 (Yv.andW (b := 4294967295#64) rfl eV eV) ?_
 refine y1 ?_
 refine nl (rs (y1 ?_))
 refine Y1 (Yv.shrW (n := 32) rfl (E rfl rfl) (E rfl rfl) (by decide)) ?_
 refine y1 ?_
 refine nl (rs (y1 ?_))
 refine Y1 (Yv.andW (b := 4294967295#64) rfl eV eV) ?_
 refine y1 ?_
 refine nl (rs (y1 ?_))
 refine Y1 (Yv.shrW (n := 32) rfl (E rfl rfl) (E rfl rfl) (by decide)) ?_
 refine y1 ?_
 refine nl (rs (y2 ?_))
 refine Y1 (Yv.mulW rfl eV eV) ?_
 refine y1 ?_
 refine nl (rs (y2 ?_))
 refine Y1 (Yv.mulW rfl eV eV) ?_
 refine y1 ?_
 refine Y1 (Yv.shrW (n := 32) rfl (E rfl rfl) (E rfl rfl) (by decide)) ?_
 refine Y1 (Yv.addW rfl eV eV) ?_
 refine y1 ?_
 refine nl (rs (y1 ?_))
 refine Y1 (Yv.andW (b := 4294967295#64) rfl eV eV) ?_
 refine y1 ?_
 refine nl (rs (y1 ?_))
 refine Y1 (Yv.shrW (n := 32) rfl (E rfl rfl) (E rfl rfl) (by decide)) ?_
 refine y1 ?_
 refine nl (rs (y3 ?_))
 refine Y1 (Yv.mulW rfl eV eV) ?_
 refine Y1 (Yv.addW rfl eV eV) ?_
 refine y1 ?_
 refine nl (rs (y2 ?_))
 refine Y1 (Yv.mulW rfl eV eV) ?_
 refine y1 ?_
 refine Y1 (Yv.addW rfl eV eV) ?_
 refine y1 ?_
 refine Y1 (Yv.shrW (n := 32) rfl (E rfl rfl) (E rfl rfl) (by decide)) ?_
 refine Y1 (Yv.addW rfl eV eV) ?_
 refine y1 ?_
 refine nl (rs (y2 ?_))
 refine Y1 (Yv.mulW rfl eV eV) ?_
 refine y1 (nl ?_)
 refine rt ?_
 rfl

theorem value56 (R : Int → Wd64 → Wd64 → Wd64) (s g n c : Nat) (ps : PS) (pre : List T) (x : Fr) (a : FA) (i : Ins) (hx : FrOk x) (hk : valK i.kind) (ha : (hasF i.kind).a = true → 0 ≤ i.a ∧ i.a < (x.nr : Int)) (hb : (hasF i.kind).b = true → 0 ≤ i.b ∧ i.b < (x.nr : Int)) (hs : i.kind = 31 → 0 ≤ i.imm ∧ i.imm < (x.ns : Int)) (hR : i.kind = 16 → ACalls Tryz.prog 89 [zi i.real, zw (rA x i.a), zw (rA x i.b)] [] (fun t S => t = zw (R i.real (rA x i.a) (rA x i.b)))) :
    ACalls Tryz.prog 66 [pv s, .ep (.slice (sg g) n c) pre.length, .agg (insCells i)] ([Ent.box s 83 (psC ps (.v (.slice (sg g) n c))), Ent.row (sg g) n c 104 7 (pre ++ frC x a)] ++ frR x a) (fun t S => t = .tup [zw (valueF R ps.heap x i).1, bv (valueF R ps.heap x i).2] ∧ S = [Ent.box s 83 (psC ps (.v (.slice (sg g) n c))), Ent.row (sg g) n c 104 7 (pre ++ frC x a)] ++ frR x a) := by
 refine lsr (R := (fun t S => t = .tup [zw (valueF R ps.heap x i).1, bv (valueF R ps.heap x i).2] ∧ ([Ent.box s 83 (psC ps (.v (.slice (sg g) n c))), Ent.row (sg g) n c 104 7 (pre ++ frC x a)] ++ frR x a).Sublist S)) (fun t S' ⟨h1, h2⟩ => ⟨_, h2, h1, rfl⟩) ?_
 have hl1 := hx.r
 have hl2 := hx.s
 have hl3 := hx.t
 have hl4 := hx.h
 unfold valK at hk
 refine ai Tryz.func66 Tryz.ntmps66 fun X w0 => ?_
 refine rs ?_
 refine bx fun b5 => ?_
 refine y2 ?_
 refine nl (sq (rs (y2 ?_)))
 refine nl (bk (rs (y2 (nl ?_))))
 refine cq (fun _ => ?_) fun _ => ?_
 ·refine rs (y2 ?_)
  refine Y1 (Yv.convW rfl Tryz.underlying2 kd_29 eV) ?_
  refine y2 (nl ?_)
  refine rt ?_
  rw [valueF, if_pos (by omega)]
  exact ⟨rfl, List.sublist_append_left _ _⟩
 refine rs (y2 (nl ?_))
 refine cq (fun _ => ?_) fun _ => ?_
 ·refine rs (y2 ?_)
  refine Y1 (Yv.convW rfl Tryz.underlying2 kd_29 eV) ?_
  refine Y1 (Yv.addW (a := 268435456#64) rfl eV eV) ?_
  refine y2 (nl ?_)
  refine rt ?_
  rw [valueF, if_neg (by omega), if_pos (by omega)]
  exact ⟨rfl, List.sublist_append_left _ _⟩
 refine rs (y2 (nl ?_))
 refine cq (fun _ => ?_) fun _ => ?_
 ·refine rs (y2 ?_)
  refine Y1 (Yv.convW rfl Tryz.underlying3 kd_29 eV) ?_
  refine Y1 (Yv.mulW (a := 16#64) rfl eV eV) ?_
  refine Y1 (Yv.addW (a := 4194304#64) rfl eV eV) ?_
  refine y2 (nl ?_)
  refine rt ?_
  rewrite [valueF]
  repeat rewrite [if_neg (by omega)]
  rw [if_pos (by omega)]
  exact ⟨rfl, List.sublist_append_left _ _⟩
 refine rs (y2 (nl ?_))
 refine cq (fun _ => ?_) fun _ => ?_
 ·refine rs (y6 (nl ?_))
  refine rt ?_
  rewrite [valueF]
  repeat rewrite [if_neg (by omega)]
  rw [if_pos (by omega)]
  exact ⟨rfl, List.sublist_append_left _ _⟩
 refine rs (y2 (nl ?_))
 refine cq (fun _ => ?_) fun _ => ?_
 ·obtain ⟨hs0, hs1⟩ := hs (by omega)
  refine rq (q18 (nq ?_))
  refine rt ?_
  rewrite [valueF]
  repeat rewrite [if_neg (by omega)]
  rw [if_pos (by omega)]
  exact ⟨rfl, List.sublist_append_left _ _⟩
 refine rs (y2 (nl ?_))
 refine cq (fun _ => ?_) fun _ => ?_
 ·obtain ⟨ha0, ha1⟩ := ha (by rw [show i.kind = 2 by omega]; rfl)
  refine rq (q10 (nq ?_))
  refine rt ?_
  rewrite [valueF]
  repeat rewrite [if_neg (by omega)]
  rw [if_pos (by omega)]
  exact ⟨rfl, List.sublist_append_left _ _⟩
 refine sp ?_
 obtain ⟨hka, hkb⟩ := has_ab (k := i.kind) (by omega) (by omega)
 obtain ⟨ha0, ha1⟩ := ha hka
 obtain ⟨hb0, hb1⟩ := hb hkb
 refine rq (q18 ?_)
 refine nq (sq (rs (y2 ?_)))
 refine nl (bk (rs (y2 (nl ?_))))
 refine cq (fun _ => ?_) fun _ => ?_
 ·refine rs (y2 ?_)
  refine Y1 (Yv.addW rfl eV eV) ?_
  refine y2 (nl ?_)
  refine rt ?_
  rewrite [valueF]
  repeat rewrite [if_neg (by omega)]
  rw [if_pos (by omega)]
  exact ⟨rfl, List.sublist_append_left _ _⟩
 refine rs (y2 (nl ?_))
 refine cq (fun _ => ?_) fun _ => ?_
 ·refine rs (y2 ?_)
  refine Y1 (Yv.subW rfl eV eV) ?_
  refine y2 (nl ?_)
  refine rt ?_
  rewrite [valueF]
  repeat rewrite [if_neg (by omega)]
  rw [if_pos (by omega)]
  exact ⟨rfl, List.sublist_append_left _ _⟩
 refine rs (y2 (nl ?_))
 refine cq (fun _ => ?_) fun _ => ?_
 ·refine rs (y2 ?_)
  refine Y1 (Yv.mulW rfl eV eV) ?_
  refine y2 (nl ?_)
  refine rt ?_
  rewrite [valueF]
  repeat rewrite [if_neg (by omega)]
  rw [if_pos (by omega)]
  exact ⟨rfl, List.sublist_append_left _ _⟩
 refine rs (y2 (nl ?_))
 refine cq (fun _ => ?_) fun _ => ?_
 ·refine rs (y2 ?_)
  refine kt (mul70 (rA x i.a) (rA x i.b)) ?_
  rintro t104 S104 rfl
  refine y5 ?_
  refine nl (rs (y3 (nl ?_)))
  refine rt ?_
  rewrite [valueF]
  repeat rewrite [if_neg (by omega)]
  rw [if_pos (by omega)]
  exact ⟨rfl, List.sublist_append_left _ _⟩
 refine rs (y2 (nl ?_))
 refine cq (fun _ => ?_) fun _ => ?_
 ·refine rs (y2 ?_)
  refine Y1 (Yv.andW rfl eV eV) ?_
  refine y2 (nl ?_)
  refine rt ?_
  rewrite [valueF]
  repeat rewrite [if_neg (by omega)]
  rw [if_pos (by omega)]
  exact ⟨rfl, List.sublist_append_left _ _⟩
 refine rs (y2 (nl ?_))
 refine cq (fun _ => ?_) fun _ => ?_
 ·refine rs (y2 ?_)
  refine Y1 (Yv.orW rfl eV eV) ?_
  refine y2 (nl ?_)
  refine rt ?_
  rewrite [valueF]
  repeat rewrite [if_neg (by omega)]
  rw [if_pos (by omega)]
  exact ⟨rfl, List.sublist_append_left _ _⟩
 refine rs (y2 (nl ?_))
 refine cq (fun _ => ?_) fun _ => ?_
 ·refine rs (y2 ?_)
  refine Y1 (Yv.xorW rfl eV eV) ?_
  refine y2 (nl ?_)
  refine rt ?_
  rewrite [valueF]
  repeat rewrite [if_neg (by omega)]
  rw [if_pos (by omega)]
  exact ⟨rfl, List.sublist_append_left _ _⟩
 refine rs (y2 (nl ?_))
 refine cq (fun _ => ?_) fun _ => ?_
 ·refine rs (y2 ?_)
  refine Y1 (Yv.andW (b := 63#64) rfl eV eV) ?_
  refine Y1 (Yv.shlW rfl eV eV (lt63 _)) ?_
  refine y2 (nl ?_)
  refine rt ?_
  rewrite [valueF]
  repeat rewrite [if_neg (by omega)]
  rw [if_pos (by omega)]
  exact ⟨rfl, List.sublist_append_left _ _⟩
 refine rs (y2 (nl ?_))
 refine cq (fun _ => ?_) fun _ => ?_
 ·refine rs (y2 ?_)
  refine Y1 (Yv.andW (b := 63#64) rfl eV eV) ?_
  refine Y1 (Yv.shrW rfl eV eV (lt63 _)) ?_
  refine y2 (nl ?_)
  refine rt ?_
  rewrite [valueF]
  repeat rewrite [if_neg (by omega)]
  rw [if_pos (by omega)]
  exact ⟨rfl, List.sublist_append_left _ _⟩
 refine rs (y2 (nl ?_))
 refine cq (fun _ => ?_) fun _ => ?_
 ·refine rs (y1 ?_)
  refine Y1 (Yv.conv rfl Tryz.underlying29 kd_2 eV) ?_
  refine y1 ?_
  refine Y1 (Yv.andW (b := 63#64) rfl eV eV) ?_
  refine Y1 (Yv.shr (p := sI (rA x i.a)) rfl eV eV (fun _ => Int.natCast_nonneg _)) ?_
  refine Y1 (Yv.convW rfl Tryz.underlying2 kd_29 eV) ?_
  refine y2 (nl ?_)
  refine rt ?_
  rewrite [valueF]
  repeat rewrite [if_neg (by omega)]
  rw [if_pos (by omega)]
  exact ⟨rfl, List.sublist_append_left _ _⟩
 refine rs (y2 (nl ?_))
 refine cq (fun _ => ?_) fun _ => ?_
 ·refine rs (y4 ?_)
  refine kt (holds51 i.cond (rA x i.a) (rA x i.b)) ?_
  rintro t149 S149 rfl
  refine kt (truth71 (holdsF i.cond (rA x i.a) (rA x i.b))) ?_
  rintro t150 S150 rfl
  refine y2 (nl ?_)
  refine rt ?_
  rewrite [valueF]
  repeat rewrite [if_neg (by omega)]
  rw [if_pos (by omega)]
  exact ⟨rfl, List.sublist_append_left _ _⟩
 refine rs (y2 (nl ?_))
 refine cq (fun _ => ?_) fun _ => ?_
 ·refine rs (y4 ?_)
  refine kt (hR (by omega)) ?_
  rintro t157 S157 rfl
  refine y2 (nl ?_)
  refine rt ?_
  rewrite [valueF]
  repeat rewrite [if_neg (by omega)]
  rw [if_pos (by omega)]
  exact ⟨rfl, List.sublist_append_left _ _⟩
 refine sp (sq (bk (rs (y1 ?_))))
 refine Y1 (Yv.eqlW (b := 0#64) rfl eV eV) ?_
 refine y1 (nl ?_)
 refine cq (fun _ => ?_) fun _ => ?_
 ·refine rs (y2 (nl ?_))
  refine rt ?_
  rw [valueF, if_neg (by omega), if_neg (by omega), if_neg (by omega), if_neg (by omega), if_neg (by omega), if_neg (by omega), if_neg (by omega), if_neg (by omega), if_neg (by omega), if_neg (by omega), if_neg (by omega), if_neg (by omega), if_neg (by omega), if_neg (by omega), if_neg (by omega), if_neg (by omega), if_neg (by omega), if_neg (by omega)]
  rw [if_pos (by assumption)]
  exact ⟨rfl, List.sublist_append_left _ _⟩
 refine rs (y4 (nl ?_))
 refine cq (fun _ => ?_) fun _ => ?_
 ·refine rs (y2 ?_)
  refine Y1 (Yv.quoW rfl eV eV (by assumption)) ?_
  refine y2 (nl ?_)
  refine rt ?_
  rw [valueF, if_neg (by omega), if_neg (by omega), if_neg (by omega), if_neg (by omega), if_neg (by omega), if_neg (by omega), if_neg (by omega), if_neg (by omega), if_neg (by omega), if_neg (by omega), if_neg (by omega), if_neg (by omega), if_neg (by omega), if_neg (by omega), if_neg (by omega), if_neg (by omega), if_neg (by omega), if_neg (by omega)]
  rw [if_neg (by assumption), if_pos (by omega)]
  exact ⟨rfl, List.sublist_append_left _ _⟩
 refine sp (rs (y2 ?_))
 refine Y1 (Yv.remW rfl eV eV (by assumption)) ?_
 refine y2 (nl ?_)
 refine rt ?_
 rw [valueF, if_neg (by omega), if_neg (by omega), if_neg (by omega), if_neg (by omega), if_neg (by omega), if_neg (by omega), if_neg (by omega), if_neg (by omega), if_neg (by omega), if_neg (by omega), if_neg (by omega), if_neg (by omega), if_neg (by omega), if_neg (by omega), if_neg (by omega), if_neg (by omega), if_neg (by omega), if_neg (by omega)]
 rw [if_neg (by assumption), if_neg (by omega)]
 exact ⟨rfl, List.sublist_append_left _ _⟩


theorem do50 (bf bc g n c : Nat) (pre : List T) (x : Fr) (a : FA) (f0 : Bool) (r : Int) (hl : x.set.length = x.nr) (hr : 0 ≤ r ∧ r < (x.nr : Int)) :
    ACalls Tryz.prog 62 [zi r, pv bf, pv bc] ([Ent.box bf 4 [bv (f0)], Ent.box bc 101 [.ep (.slice (sg g) n c) pre.length], Ent.row (sg g) n c 104 7 (pre ++ frC x a), Ent.row a.t x.nr x.nr 4 1 (x.set.map bv)]) (fun t S => t = .tup [] ∧ S = [Ent.box bf 4 [bv (f0 && x.set.getD r.toNat default)], Ent.box bc 101 [.ep (.slice (sg g) n c) pre.length], Ent.row (sg g) n c 104 7 (pre ++ frC x a), Ent.row a.t x.nr x.nr 4 1 (x.set.map bv)]) := by
 refine ai Tryz.func62 Tryz.ntmps62 fun X w0 => ?_
 refine rg (y11 (nl ?_))
 refine retN .nil ?_
 exact ⟨rfl, rfl⟩

theorem rd3_of (i : Ins) : readsF i = rd2 i ++ if (hasF i.kind).args = true then i.args else [] := rfl
theorem rd2_of (i : Ins) : rd2 i = rd1 i ++ if (hasF i.kind).b = true then [i.b] else [] := rfl
theorem reads49 (bf bc g n c : Nat) (pre : List T) (x : Fr) (a : FA) (f0 : Bool) (i : Ins) (hl : x.set.length = x.nr) (ha : i.args.length ≤ 1048576) (hr : ∀ r ∈ readsF i, 0 ≤ r ∧ r < (x.nr : Int)) :
    ACalls Tryz.prog 61 [.agg (insCells i), .v (.func (.func 62) #[] #[.pointer (sg bf), .pointer (sg bc)])] ([Ent.box bf 4 [bv (f0)], Ent.box bc 101 [.ep (.slice (sg g) n c) pre.length], Ent.row (sg g) n c 104 7 (pre ++ frC x a), Ent.row a.t x.nr x.nr 4 1 (x.set.map bv)]) (fun t S => t = .tup [] ∧ S = [Ent.box bf 4 [bv (f0 && okS x.set (readsF i))], Ent.box bc 101 [.ep (.slice (sg g) n c) pre.length], Ent.row (sg g) n c 104 7 (pre ++ frC x a), Ent.row a.t x.nr x.nr 4 1 (x.set.map bv)]) := by
 refine lsr (R := (fun t S => t = .tup [] ∧ ([Ent.box bf 4 [bv (f0 && okS x.set (readsF i))], Ent.box bc 101 [.ep (.slice (sg g) n c) pre.length], Ent.row (sg g) n c 104 7 (pre ++ frC x a), Ent.row a.t x.nr x.nr 4 1 (x.set.map bv)]).Sublist S)) (fun t S' ⟨h1, h2⟩ => ⟨_, h2, h1, rfl⟩) ?_
 refine ai Tryz.func61 Tryz.ntmps61 fun X w0 => ?_
 refine rs ?_
 refine bx fun b2 => ?_
 refine nl (rs (y2 ?_))
 refine kt (fields57 i.kind) ?_
 rintro t11 S11 rfl
 refine y3 ?_
 refine bx fun b4 => ?_
 refine y2 (nl ?_)
 refine AW.mid (α := Unit) (fun _ => [(1, true, .v (.func (.func 62) #[] #[.pointer (sg bf), .pointer (sg bc)])), (2, true, pv b2), (4, true, pv b4)]) (fun _ => [Ent.box bf 4 [bv (f0 && okS x.set (rd1 i))], Ent.box bc 101 [.ep (.slice (sg g) n c) pre.length], Ent.row (sg g) n c 104 7 (pre ++ frC x a), Ent.row a.t x.nr x.nr 4 1 (x.set.map bv)] ++ [Ent.box b2 90 (insCells i), Ent.box b4 143 (hasCells (hasF i.kind))]) (fun _ => True) ?_ ?_
 ·refine rs (y2 (nl ?_))
  refine cq (fun h0t => ?_) fun h0f => ?_
  ·refine rg (y3 ?_)
   refine kc (do50 bf bc g n c pre x a (f0) i.a hl (hr _ (by rw [rd3_of, rd2_of, rd1_t h0t]; simp))) ?_
   rintro t19 S19 ⟨rfl, rfl⟩
   refine nl ?_
   refine ⟨(), trivial, sbZ, ?_⟩
   rw [rd1_t h0t, okS_one]
   rfl
  refine sp ?_
  refine ⟨(), trivial, sbZ, ?_⟩
  rw [rd1_f h0f, okS_nil, Bool.and_true]
  try rfl
 rintro _ hmid
 refine AW.mid (α := Unit) (fun _ => [(1, true, .v (.func (.func 62) #[] #[.pointer (sg bf), .pointer (sg bc)])), (2, true, pv b2), (4, true, pv b4)]) (fun _ => [Ent.box bf 4 [bv (f0 && okS x.set (rd2 i))], Ent.box bc 101 [.ep (.slice (sg g) n c) pre.length], Ent.row (sg g) n c 104 7 (pre ++ frC x a), Ent.row a.t x.nr x.nr 4 1 (x.set.map bv)] ++ [Ent.box b2 90 (insCells i), Ent.box b4 143 (hasCells (hasF i.kind))]) (fun _ => True) ?_ ?_
 ·refine rs (y2 (nl ?_))
  refine cq (fun h1t => ?_) fun h1f => ?_
  ·refine rg (y3 ?_)
   refine kc (do50 bf bc g n c pre x a (f0 && okS x.set (rd1 i)) i.b hl (hr _ (by rw [rd3_of, rd2_t h1t]; simp))) ?_
   rintro t25 S25 ⟨rfl, rfl⟩
   refine nl ?_
   refine ⟨(), trivial, sbZ, ?_⟩
   rw [rd2_t h1t, okS_app, okS_one, ← Bool.and_assoc]
   try rfl
  refine sp ?_
  refine ⟨(), trivial, sbZ, ?_⟩
  rw [rd2_f h1f]
  try rfl
 rintro _ hmid
 refine rs (y2 (nl ?_))
 refine cq (fun h2t => ?_) fun h2f => ?_
 ·refine rs (y4 ?_)
  refine nl (bk ?_)
  refine AW.loop (fun (j : Nat) => [(1, true, .v (.func (.func 62) #[] #[.pointer (sg bf), .pointer (sg bc)])), (2, true, pv b2), (4, true, pv b4), (29, true, .sl 1 (i.args.map zi)), (30, true, .v (.int .i64 (i.args.length : Int))), (31, true, zv j)]) (fun (j : Nat) => ([Ent.box bf 4 [bv (f0 && okS x.set (rd2 i ++ i.args.take (j)))], Ent.box bc 101 [.ep (.slice (sg g) n c) pre.length], Ent.row (sg g) n c 104 7 (pre ++ frC x a), Ent.row a.t x.nr x.nr 4 1 (x.set.map bv)] ++ [Ent.box b2 90 (insCells i), Ent.box b4 143 (hasCells (hasF i.kind))])) (fun (j : Nat) => j ≤ i.args.length) (fun (j : Nat) => i.args.length - j) 0 ?_ ?_ ?_ ?_
  ·exact Nat.zero_le _
  ·exact sbZ
  ·rw [List.take_zero, List.append_nil]
  intro j hinv
  refine rs (y1 ?_)
  refine nl (sq ?_)
  refine cq (fun _ => ?_) fun _ => ?_
  ·refine sp (sq (bk (rs (y3 ?_))))
   refine nl (rg (y2 ?_))
   refine kc (do50 bf bc g n c pre x a (f0 && okS x.set (rd2 i ++ i.args.take (j))) (i.args.getD j default) hl (hr _ (by rw [rd3_t h2t]; exact List.mem_append_right _ (getD_mem (l := i.args) (j := j) (by omega))))) ?_
   rintro t37 S37 ⟨rfl, rfl⟩
   refine nl (rg (y2 (nl ?_)))
   refine ⟨j + 1, by omega, by omega, sbZ, ?_⟩
   rw [take_gd (show j < i.args.length by omega), ← List.append_assoc, okS_app x.set (rd2 i ++ i.args.take j) [i.args.getD j default], okS_one, ← Bool.and_assoc]
   try rfl
  refine xt ?_
  refine retN .nil ?_
  obtain rfl : j = i.args.length := by omega
  rw [List.take_length, ← rd3_t h2t]
  exact ⟨rfl, List.sublist_append_left _ _⟩
 refine sp ?_
 refine retN .nil ?_
 rw [rd3_f h2f]
 exact ⟨rfl, List.sublist_append_left _ _⟩


theorem top6 {pre : List T} {y x : Fr} {b a : FA} {k : Nat} (h : pre.length = k * 7) : (pre ++ frC y b ++ frC x a)[(k + 1) * 7 + 6]? = some (zi x.d) := by
 have h2 : (pre ++ frC y b).length = (k + 1) * 7 := by rw [List.length_append, h, frC_len]; omega
 rw [← h2]; exact fr6
theorem take_top {pre : List T} {y x : Fr} {b a : FA} {k : Nat} (h : pre.length = k * 7) : (pre ++ frC y b ++ frC x a).take ((k + 1) * 7) = pre ++ frC y b := by
 rw [List.take_left' (by rw [List.length_append, h, frC_len]; omega)]
theorem backOne (s g c : Nat) (ps : PS) (x : Fr) (a : FA) (v : Wd64) :
    ACalls Tryz.prog 82 [pv s, zw v] ([Ent.box s 83 (psC ps (.v (.slice (sg g) 1 c))), Ent.row (sg g) 1 c 104 7 (frC x a)]) (fun t S => t = .tup [] ∧ S = [Ent.box s 83 (psC (backP ps v) (.v (.slice (sg g) 1 c))), Ent.row (sg g) 1 c 104 7 (frC x a)]) := by
 refine ai Tryz.func82 Tryz.ntmps82 fun X w0 => ?_
 refine rq (q10 ?_)
 refine Q1 (ix (j := 0) (hj := fun hg => ⟨rfl, by omega⟩)) ?_
 refine q1 ?_
 refine Q1 (Yv.loadEp rfl ag_3 (i := 1) rfl eV (fun _ => rfl)) ?_
 refine q1 ?_
 refine nq (sq (rs (y6 ?_)))
 refine nl (rs (y2 (nl ?_)))
 refine cf fun _ => ?_
 refine sp (sq (rs (y4 (nl ?_))))
 refine cq (fun h1t => ?_) fun h1f => ?_
 ·refine rs (y9 (nl ?_))
  refine AW.ret (retI .nil ?_)
  refine ⟨rfl, ?_⟩
  rw [backP, if_pos h1t]
  rfl
 refine sp (rg (y3 ?_))
 refine Y1 (Yv.andW (b := 255#64) rfl eV eV) ?_
 refine Y1 (Yv.conv rfl Tryz.underlying29 kd_3 eV) ?_
 refine y6 (nl ?_)
 refine retN .nil ?_
 refine ⟨rfl, ?_⟩
 rw [backP, if_neg (by rw [h1f]; decide)]
 rfl

theorem backMore (s g c k : Nat) (ps : PS) (pre : List T) (y : Fr) (b : FA) (x : Fr) (a : FA) (v : Wd64) (hpre : pre.length = k * 7) (hk : k ≤ 1048576) (hy : FrOk y) (hd : 0 ≤ x.d ∧ x.d < (y.nr : Int)) :
    ACalls Tryz.prog 82 [pv s, zw v] ([Ent.box s 83 (psC ps (.v (.slice (sg g) (k + 2) c))), Ent.row (sg g) (k + 2) c 104 7 (pre ++ frC y b ++ frC x a)] ++ frR y b) (fun t S => t = .tup [] ∧ S = [Ent.box s 83 (psC ps (.v (.slice (sg g) (k + 1) c))), Ent.row (sg g) (k + 1) c 104 7 (pre ++ frC y b)] ++ frR (setD y x.d v) b) := by
 have hl1 := hy.r
 have hl2 := hy.t
 obtain ⟨hd0, hd1⟩ := hd
 refine ai Tryz.func82 Tryz.ntmps82 fun X w0 => ?_
 refine rq (q10 ?_)
 refine Q1 (ix (j := (k + 1)) (hj := fun hg => ⟨by omega, by omega⟩)) ?_
 refine q1 ?_
 refine Q1 (lw (hr := fun hg => (top6 hpre))) ?_
 refine q1 ?_
 refine nq (sq (rs (y6 ?_)))
 refine nl (rs (y2 (nl ?_)))
 refine ct fun _ => ?_
 refine AW.rowLe 1 rfl (fun hkc => ?_)
 refine rs (y7 ?_)
 refine Y1 (Yv.sliceRow0 (i := 1) (m := k + 1) rfl ss_81 rfl eV (Bound.some_ eV (fun hg => by omega)) (fun hg => by omega)) ?_
 refine y3 (nl ?_)
 refine AW.shrink 1 (k + 1) rfl (by omega) ?_
 refine AW.eqS (S' := [Ent.box s 83 (psC ps (.v (.slice (sg g) (k + 1) c))), Ent.row (sg g) (k + 1) c 104 7 (pre ++ frC y b)] ++ frR y b) (by
  rw [take_top hpre]
  rfl) ?_
 refine rs (y6 ?_)
 refine Y1 (ix (j := k) (hj := fun hg => ⟨by omega, by omega⟩)) ?_
 refine y1 (nl ?_)
 refine AW.rseqH (HeldCs [(g, k * 7 + 2, Value.slice b.r y.nr y.nr), (g, k * 7 + 4, Value.slice b.t y.nr y.nr)]) rfl (tells_cs (tcR 1 rfl (hpre ▸ fr2) pinV (tcR 1 rfl (hpre ▸ fr4) pinV tc0))) ?_
 refine tq 0 ?_
 refine tq 1 ?_
 refine tq 2 ?_
 refine tq 3 ?_
 refine tq 4 ?_
 refine tq 5 ?_
 refine tq 6 ?_
 refine tq 7 ?_
 refine tq 8 ?_
 refine tq 9 ?_
 refine oh 10 ?_
 refine y1 ?_
 refine AWL.nil (kpH (tcR 1 rfl (hpre ▸ fr2) pinV (tcR 1 rfl (hpre ▸ fr4) pinV tc0)) ?_)
 refine oh 11 ?_
 refine y1 ?_
 refine AWL.nil (kpH (tcR 1 rfl (hpre ▸ fr2) pinV (tcR 1 rfl (hpre ▸ fr4) pinV tc0)) ?_)
 refine oh 12 ?_
 refine y1 ?_
 refine AWL.nil (kpH (tcR 1 rfl (hpre ▸ fr2) pinV (tcR 1 rfl (hpre ▸ fr4) pinV tc0)) ?_)
 refine oh 13 ?_
 refine y1 ?_
 refine AWL.nil (kpH (tcR 1 rfl (hpre ▸ fr2) pinV (tcR 1 rfl (hpre ▸ fr4) pinV tc0)) ?_)
 refine oh 14 ?_
 refine y1 ?_
 refine AWL.nil (kpH (tcR 1 rfl (hpre ▸ fr2) pinV (tcR 1 rfl (hpre ▸ fr4) pinV tc0)) ?_)
 refine dn ?_
 refine AW.ret (retI .nil ?_)
 refine ⟨rfl, ?_⟩
 rw [setD_rows]
 rfl


theorem jumpsRetOne (s g c : Nat) (ps : PS) (x : Fr) (a : FA) (i : Ins) (hx : FrOk x) (hk : i.kind = 26) (ha : 0 ≤ i.a ∧ i.a < (x.nr : Int)) :
    ACalls Tryz.prog 64 [pv s, .ep (.slice (sg g) 1 c) 0, .agg (insCells i)] ([Ent.box s 83 (psC ps (.v (.slice (sg g) 1 c))), Ent.row (sg g) 1 c 104 7 (frC x a)] ++ frR x a) (fun t S => t = bv true ∧ S = [Ent.box s 83 (psC (backP ps (rA x i.a)) (.v (.slice (sg g) 1 c))), Ent.row (sg g) 1 c 104 7 (frC x a)] ++ frR x a) := by
 refine lsr (R := (fun t S => t = bv true ∧ ([Ent.box s 83 (psC (backP ps (rA x i.a)) (.v (.slice (sg g) 1 c))), Ent.row (sg g) 1 c 104 7 (frC x a)] ++ frR x a).Sublist S)) (fun t S' ⟨h1, h2⟩ => ⟨_, h2, h1, rfl⟩) ?_
 have hl1 := hx.r
 obtain ⟨ha0, ha1⟩ := ha
 refine ai Tryz.func64 Tryz.ntmps64 fun X w0 => ?_
 refine rs ?_
 refine bx fun b5 => ?_
 refine y1 ?_
 refine nl (sq (rs (y3 (nl ?_))))
 refine ct fun _ => ?_
 refine AW.rseqP rfl ?_
 refine phn 9 1 ?_
 refine q4 ?_
 refine Q1 (Yv.loadEp rfl ag_30 (i := 1) rfl eV (fun _ => rfl)) ?_
 refine q4 (nq ?_)
 refine op 9 ?_
 refine kc (backOne s g c ps x a (rA x i.a)) ?_
 rintro t25 S25 ⟨rfl, rfl⟩
 refine nl ?_
 refine dn ?_
 refine rs (y1 (nl ?_))
 refine rt ?_
 exact ⟨rfl, List.sublist_append_left _ _⟩

theorem jumpsRetMore_ (s g c k : Nat) (ps : PS) (pre : List T) (y : Fr) (b : FA) (x : Fr) (a : FA) (i : Ins) (hpre : pre.length = k * 7) (hk : k ≤ 1048576) (hy : FrOk y) (hd : 0 ≤ x.d ∧ x.d < (y.nr : Int)) (hx : FrOk x) (hk : i.kind = 26) (ha : 0 ≤ i.a ∧ i.a < (x.nr : Int)) :
    ACalls Tryz.prog 64 [pv s, .ep (.slice (sg g) (k + 2) c) (pre ++ frC y b).length, .agg (insCells i)] (([Ent.box s 83 (psC ps (.v (.slice (sg g) (k + 2) c))), Ent.row (sg g) (k + 2) c 104 7 (pre ++ frC y b ++ frC x a)] ++ frR y b) ++ frR x a) (fun t S => t = bv true ∧ ([Ent.box s 83 (psC ps (.v (.slice (sg g) (k + 1) c))), Ent.row (sg g) (k + 1) c 104 7 (pre ++ frC y b)] ++ frR (setD y x.d (rA x i.a)) b ++ frR x a).Sublist S) := by
 have hl1 := hx.r
 obtain ⟨ha0, ha1⟩ := ha
 refine ai Tryz.func64 Tryz.ntmps64 fun X w0 => ?_
 refine rs ?_
 refine bx fun b5 => ?_
 refine y1 ?_
 refine nl (sq (rs (y1 ?_)))
 refine yl ag_3 10 ?_
 refine y1 (nl ?_)
 refine ct fun _ => ?_
 refine AW.rseqP rfl ?_
 refine phn 9 1 ?_
 refine q6 ?_
 refine ql ag_3 10 ?_
 refine q2 (nq ?_)
 refine op 9 ?_
 refine kc (backMore s g c k ps pre y b x a (rA x i.a) hpre (by assumption) hy hd) ?_
 rintro t25 S25 ⟨rfl, rfl⟩
 refine nl ?_
 refine dn ?_
 refine rs (y1 (nl ?_))
 refine rt ?_
 exact ⟨rfl, List.sublist_append_left _ _⟩

theorem jumpsRetMore (s g c k : Nat) (ps : PS) (pre : List T) (y : Fr) (b : FA) (x : Fr) (a : FA) (i : Ins) (hpre : pre.length = k * 7) (hk : k ≤ 1048576) (hy : FrOk y) (hd : 0 ≤ x.d ∧ x.d < (y.nr : Int)) (hx : FrOk x) (hk : i.kind = 26) (ha : 0 ≤ i.a ∧ i.a < (x.nr : Int)) : ACalls Tryz.prog 64 [pv s, .ep (.slice (sg g) (k + 2) c) (pre ++ frC y b).length, .agg (insCells i)] (([Ent.box s 83 (psC ps (.v (.slice (sg g) (k + 2) c))), Ent.row (sg g) (k + 2) c 104 7 (pre ++ frC y b ++ frC x a)] ++ frR y b) ++ frR x a) (fun t S => t = bv true ∧ S = [Ent.box s 83 (psC ps (.v (.slice (sg g) (k + 1) c))), Ent.row (sg g) (k + 1) c 104 7 (pre ++ frC y b)] ++ frR (setD y x.d (rA x i.a)) b ++ frR x a) :=
 (jumpsRetMore_ s g c k ps pre y b x a i hpre (by assumption) hy hd hx hk ha).less fun t S' ⟨h1, h2⟩ => ⟨_, h2, h1, rfl⟩

theorem pmA {α : Type} {a0 a1 a2 a3 a4 a5 a6 a7 a8 : α} {Z : List α} : (a8 :: a6 :: a1 :: a4 :: a0 :: a2 :: a3 :: a5 :: a7 :: Z).Perm (a0 :: a1 :: a2 :: a3 :: a4 :: a5 :: a6 :: a7 :: a8 :: Z) := pk
theorem pmB {α : Type} {a0 a1 a2 a3 a4 a5 a6 a7 a8 : α} {Z : List α} : (a4 :: a2 :: a5 :: a6 :: a3 :: a7 :: a1 :: a8 :: a0 :: Z).Perm (a0 :: a1 :: a2 :: a3 :: a4 :: a5 :: a6 :: a7 :: a8 :: Z) := pk
theorem do32A (R : Int → Wd64 → Wd64 → Wd64) (s g n c : Nat) (ps : PS) (pre : List T) (x : Fr) (a : FA) (i : Ins) (hx : FrOk x) (hk : valK i.kind ∨ i.kind = 32) (ha : (hasF i.kind).a = true → 0 ≤ i.a ∧ i.a < (x.nr : Int)) (hb : (hasF i.kind).b = true → 0 ≤ i.b ∧ i.b < (x.nr : Int)) (hs : i.kind = 31 ∨ i.kind = 32 → 0 ≤ i.imm ∧ i.imm < (x.ns : Int)) (hR : i.kind = 16 → ACalls Tryz.prog 89 [zi i.real, zw (rA x i.a), zw (rA x i.b)] [] (fun t S => t = zw (R i.real (rA x i.a) (rA x i.b)))) (hd : (hasF i.kind).d = true → 0 ≤ i.d ∧ i.d < (x.nr : Int)) (hr : ∀ r ∈ readsF i, 0 ≤ r ∧ r < (x.nr : Int)) (hg : i.args.length ≤ 1048576) (hat : 0 ≤ x.at_ ∧ x.at_ ≤ 4611686018427387904) :
    ACalls Tryz.prog 37 [pv s, .ep (.slice (sg g) n c) pre.length, .agg (insCells i)] ([Ent.box s 83 (psC ps (.v (.slice (sg g) n c))), Ent.row (sg g) n c 104 7 (pre ++ frC x a)] ++ frR x a) (fun t S => t = bv (stepA R ps.heap x i).isSome ∧ S = ([Ent.box s 83 (psC ps (.v (.slice (sg g) n c))), Ent.row (sg g) n c 104 7 (pre ++ frC ((stepA R ps.heap x i).getD x) a)] ++ frR ((stepA R ps.heap x i).getD x) a)) := by
 refine lsr (R := (fun t S => t = bv (stepA R ps.heap x i).isSome ∧ ([Ent.box s 83 (psC ps (.v (.slice (sg g) n c))), Ent.row (sg g) n c 104 7 (pre ++ frC ((stepA R ps.heap x i).getD x) a)] ++ frR ((stepA R ps.heap x i).getD x) a).Sublist S)) (fun t S' ⟨h1, h2⟩ => ⟨_, h2, h1, rfl⟩) ?_
 have hl1 := hx.r
 have hl2 := hx.s
 have hl3 := hx.t
 have hl4 := hx.h
 obtain ⟨hat0, hat1⟩ := hat
 refine ai Tryz.func37 Tryz.ntmps37 fun X w0 => ?_
 refine rs ?_
 refine bx fun b4 => ?_
 refine bx fun b5 => ?_
 refine y1 ?_
 refine nl (rs ?_)
 refine bx fun b7 => ?_
 refine y1 ?_
 refine nl (rs (y1 ?_))
 refine Y1 (Yv.makeFunc rfl evs0 rfl (evsC eV (evsC eV evs0)) rfl) ?_
 refine AWL.perm (S' := [Ent.box b7 4 [bv (true)], Ent.box b4 101 [.ep (.slice (sg g) n c) pre.length], Ent.row (sg g) n c 104 7 (pre ++ frC x a), Ent.row a.t x.nr x.nr 4 1 (x.set.map bv)] ++ [Ent.box s 83 (psC ps (.v (.slice (sg g) n c))), Ent.row a.r x.nr x.nr 29 1 (x.r.map zw), Ent.row a.s x.ns x.ns 29 1 (x.slot.map zw), Ent.row a.h x.ns x.ns 4 1 (x.there.map bv), Ent.box b5 90 (insCells i)]) pmA ?_
 refine kc (reads49 b7 b4 g n c pre x a true i hx.t hg hr) ?_
 rintro t14 S14 ⟨rfl, rfl⟩
 refine AWL.perm (S' := [Ent.box s 83 (psC ps (.v (.slice (sg g) n c))), Ent.row (sg g) n c 104 7 (pre ++ frC x a)] ++ frR x a ++ [Ent.box b4 101 [.ep (.slice (sg g) n c) pre.length], Ent.box b5 90 (insCells i), Ent.box b7 4 [bv (okS x.set (readsF i))]]) pmB ?_
 refine nl (sq (rs (y2 (nl ?_))))
 refine cq (fun h0t => ?_) fun h0f => ?_
 ·refine rs (y1 (nl ?_))
  refine rt ?_
  rw [stepA_0 (by simpa using h0t)]
  exact ⟨rfl, List.sublist_append_left _ _⟩
 have hok : okS x.set (readsF i) = true := by simpa using h0f
 refine sp (rs (y2 (nl ?_)))
 refine AW.mid (α := (Wd64 × Bool × Fr)) (fun y => [(0, true, pv s), (4, true, pv b4), (5, true, pv b5), (8, true, zw y.1), (9, true, bv y.2.1)]) (fun y => ([Ent.box s 83 (psC ps (.v (.slice (sg g) n c))), Ent.row (sg g) n c 104 7 (pre ++ frC y.2.2 a)] ++ frR y.2.2 a) ++ [Ent.box b4 101 [.ep (.slice (sg g) n c) pre.length], Ent.box b5 90 (insCells i), Ent.box b7 4 [bv (okS x.set (readsF i))]]) (fun y => midA R ps.heap x i y.1 y.2.1 y.2.2) ?_ ?_
 ·refine rs (y2 ?_)
  refine nl (bk (rs (y2 (nl ?_))))
  refine cq (fun _ => ?_) fun _ => ?_
  ·exfalso; unfold valK at hk; omega
  refine rs (y2 (nl ?_))
  refine cq (fun _ => ?_) fun _ => ?_
  ·exfalso; unfold valK at hk; omega
  refine sq (rs (y2 (nl ?_)))
  refine cq (fun _ => ?_) fun _ => ?_
  ·exfalso; unfold valK at hk; omega
  refine rs (y2 (nl ?_))
  refine cq (fun _ => ?_) fun _ => ?_
  ·exfalso; unfold valK at hk; omega
  refine rs (y2 (nl ?_))
  refine cq (fun _ => ?_) fun _ => ?_
  ·exfalso; unfold valK at hk; omega
  refine rs (y2 (nl ?_))
  refine cq (fun _ => ?_) fun _ => ?_
  ·exfalso; unfold valK at hk; omega
  refine rg (y2 (nl ?_))
  refine cq (fun _ => ?_) fun _ => ?_
  ·exfalso; unfold valK at hk; omega
  refine rs (y2 (nl ?_))
  refine cq (fun _ => ?_) fun _ => ?_
  ·exfalso; unfold valK at hk; omega
  refine rs (y2 (nl ?_))
  refine cq (fun h9t => ?_) fun _ => ?_
  ·obtain ⟨hs0, hs1⟩ := hs (.inr h9t)
   obtain ⟨ha0, ha1⟩ := ha (by rw [h9t]; rfl)
   refine AW.regionH (HeldCs [(b4, 0, Value.pointer (some ⟨g, pre.length, none⟩)), (g, pre.length + 3, Value.slice a.s x.ns x.ns), (b5, 9, Value.int .i64 i.imm), (g, pre.length + 5, Value.slice a.h x.ns x.ns), (g, pre.length + 2, Value.slice a.r x.nr x.nr), (b5, 2, Value.int .i64 i.a)]) rfl (tells_cs tcA) ?_
   refine T2 (i := 0) rfl (heldB (r := .ep (.slice (sg g) n c) pre.length) 0 rfl ag_101 (E rfl rfl) rfl (fun _ _ => .ep)) ?_
   refine tq 1 ?_
   refine tq 2 ?_
   refine tq 3 ?_
   refine tq 4 ?_
   refine tq 5 ?_
   refine T2 (i := 6) rfl (heldB (r := .ep (.slice (sg g) n c) pre.length) 0 rfl ag_101 (E rfl rfl) rfl (fun _ _ => .ep)) ?_
   refine tq 7 ?_
   refine tq 8 ?_
   refine tq 9 ?_
   refine tq 10 ?_
   refine tq 11 ?_
   refine T2 (i := 12) rfl (heldB (r := .ep (.slice (sg g) n c) pre.length) 0 rfl ag_101 (E rfl rfl) rfl (fun _ _ => .ep)) ?_
   refine tq 13 ?_
   refine tq 14 ?_
   refine tq 15 ?_
   refine oh 16 ?_
   refine y1 ?_
   refine kh ?_
   refine oh 17 ?_
   refine y1 ?_
   refine kh ?_
   refine oh 18 ?_
   refine Y1 (ix (j := i.a.toNat) (hj := fun hg => ⟨(Int.toNat_of_nonneg ha0).symm, show i.a.toNat < x.nr by omega⟩)) ?_
   refine kh ?_
   refine oh 19 ?_
   refine y1 ?_
   refine kh ?_
   refine oh 20 ?_
   refine Y1 (ix (j := i.imm.toNat) (hj := fun hg => ⟨(Int.toNat_of_nonneg hs0).symm, show i.imm.toNat < x.ns by omega⟩)) ?_
   refine kh ?_
   refine oh 21 ?_
   refine y1 ?_
   refine kh ?_
   refine oh 22 ?_
   refine Y1 (ix (j := i.imm.toNat) (hj := fun hg => ⟨(Int.toNat_of_nonneg hs0).symm, show i.imm.toNat < x.ns by omega⟩)) ?_
   refine kh ?_
   refine oh 23 ?_
   refine y1 ?_
   refine kh ?_
   refine dn ?_
   refine ⟨(0#64, true, putF x i), .inl ⟨h9t, rfl, rfl⟩, sbZ, ?_⟩
   rw [putF_rows]
   rfl
  refine rs (y2 (nl ?_))
  refine cq (fun _ => ?_) fun _ => ?_
  ·exfalso; unfold valK at hk; omega
  refine rs (y2 (nl ?_))
  refine cq (fun _ => ?_) fun _ => ?_
  ·exfalso; unfold valK at hk; omega
  have hkv : valK i.kind := by
   rcases hk with h | h
   ·exact h
   ·omega
  refine rg (y3 ?_)
  refine kc (value56 R s g n c ps pre x a i hx hkv ha hb (fun h => hs (.inl h)) hR) ?_
  rintro t23 S23 ⟨rfl, rfl⟩
  refine y5 (nl ?_)
  exact ⟨((valueF R ps.heap x i).1, (valueF R ps.heap x i).2, x), .inr ⟨hkv, rfl, rfl, rfl⟩, sbZ, rfl⟩
 rintro ⟨v, ok, x1⟩ hm
 dsimp only at hm
 show AW _ _ _ [(0, true, pv s), (4, true, pv b4), (5, true, pv b5), (8, true, zw v), (9, true, bv ok)] (([Ent.box s 83 (psC ps (.v (.slice (sg g) n c))), Ent.row (sg g) n c 104 7 (pre ++ frC x1 a)] ++ frR x1 a) ++ [Ent.box b4 101 [.ep (.slice (sg g) n c) pre.length], Ent.box b5 90 (insCells i), Ent.box b7 4 [bv (okS x.set (readsF i))]])
 obtain ⟨hx1, hnr, hat3⟩ := midA_ok hm hx
 have hm1 := hx1.r
 have hm3 := hx1.t
 refine sq (rs (y2 (nl ?_)))
 refine cq (fun h12t => ?_) fun h12f => ?_
 ·refine rs (y1 (nl ?_))
  refine rt ?_
  obtain ⟨e1, e2⟩ := stepA_1 hok hm (by simpa using h12t)
  rw [e1]
  subst e2
  exact ⟨rfl, List.sublist_append_left _ _⟩
 refine sp (sq (rs (y2 ?_)))
 refine kt (fields57 i.kind) ?_
 rintro t188 S188 rfl
 refine y3 ?_
 refine bx fun b10 => ?_
 refine y2 ?_
 refine nl (rs (y2 (nl ?_)))
 refine cq (fun h13t => ?_) fun h13f => ?_
 ·obtain ⟨hd0, hd1⟩ := hd h13t
  refine AW.regionH (HeldCs [(b4, 0, Value.pointer (some ⟨g, pre.length, none⟩)), (g, pre.length + 2, Value.slice a.r x1.nr x1.nr), (b5, 1, Value.int .i64 i.d), (g, pre.length + 4, Value.slice a.t x1.nr x1.nr)]) rfl (tells_cs tcA) ?_
  refine T2 (i := 0) rfl (heldB (r := .ep (.slice (sg g) n c) pre.length) 0 rfl ag_101 (E rfl rfl) rfl (fun _ _ => .ep)) ?_
  refine tq 1 ?_
  refine tq 2 ?_
  refine tq 3 ?_
  refine tq 4 ?_
  refine tq 5 ?_
  refine T2 (i := 6) rfl (heldB (r := .ep (.slice (sg g) n c) pre.length) 0 rfl ag_101 (E rfl rfl) rfl (fun _ _ => .ep)) ?_
  refine tq 7 ?_
  refine tq 8 ?_
  refine tq 9 ?_
  refine tq 10 ?_
  refine tq 11 ?_
  refine oh 12 ?_
  refine y1 ?_
  refine kh ?_
  refine oh 13 ?_
  refine Y1 (ix (j := i.d.toNat) (hj := fun hg => ⟨(Int.toNat_of_nonneg hd0).symm, show i.d.toNat < x1.nr by omega⟩)) ?_
  refine kh ?_
  refine oh 14 ?_
  refine y1 ?_
  refine kh ?_
  refine oh 15 ?_
  refine Y1 (ix (j := i.d.toNat) (hj := fun hg => ⟨(Int.toNat_of_nonneg hd0).symm, show i.d.toNat < x1.nr by omega⟩)) ?_
  refine kh ?_
  refine oh 16 ?_
  refine y1 ?_
  refine kh ?_
  refine dn ?_
  refine rs (y8 ?_)
  refine nl (rs (y1 (nl ?_)))
  refine rt ?_
  rw [stepA_2 hok hm (by simpa using h12f) h13t]
  refine ⟨rfl, ?_⟩
  refine (List.sublist_append_left ([Ent.box s 83 (psC ps (.v (.slice (sg g) n c))), Ent.row (sg g) n c 104 7 (pre ++ frC (goF (setD x1 i.d v)) a)] ++ frR (goF (setD x1 i.d v)) a) [Ent.box b4 101 [.ep (.slice (sg g) n c) pre.length], Ent.box b5 90 (insCells i), Ent.box b7 4 [bv (okS x.set (readsF i))], Ent.box b10 143 (hasCells (hasF i.kind))]).trans ?_
  rw [show frR (goF (setD x1 i.d v)) a = frR (setD x1 i.d v) a from rfl, setD_rows, show frC (goF (setD x1 i.d v)) a = frC (goF x1) a from rfl, show goF x1 = { x1 with at_ := x1.at_ + 1 } from rfl, ← fr_jump]
  exact List.Sublist.refl _
 refine sp (rs (y8 ?_))
 refine nl (rs (y1 (nl ?_)))
 refine rt ?_
 rw [stepA_3 hok hm h13f]
 refine ⟨rfl, ?_⟩
 refine (List.sublist_append_left ([Ent.box s 83 (psC ps (.v (.slice (sg g) n c))), Ent.row (sg g) n c 104 7 (pre ++ frC (goF x1) a)] ++ frR (goF x1) a) [Ent.box b4 101 [.ep (.slice (sg g) n c) pre.length], Ent.box b5 90 (insCells i), Ent.box b7 4 [bv (okS x.set (readsF i))], Ent.box b10 143 (hasCells (hasF i.kind))]).trans ?_
 rw [show goF x1 = { x1 with at_ := x1.at_ + 1 } from rfl, ← fr_jump]
 exact List.Sublist.refl _


theorem pmA0 {α : Type} {a0 a1 a2 a3 a4 a5 a6 a7 a8 : α} {Z : List α} : (a8 :: a6 :: a1 :: a4 :: a0 :: a2 :: a3 :: a5 :: a7 :: Z).Perm (a0 :: a1 :: a2 :: a3 :: a4 :: a5 :: a6 :: a7 :: a8 :: Z) := pk
theorem pmB0 {α : Type} {a0 a1 a2 a3 a4 a5 a6 a7 a8 : α} {Z : List α} : (a4 :: a2 :: a5 :: a6 :: a3 :: a7 :: a1 :: a8 :: a0 :: Z).Perm (a0 :: a1 :: a2 :: a3 :: a4 :: a5 :: a6 :: a7 :: a8 :: Z) := pk
theorem do32R1 (s g c : Nat) (ps : PS) (x : Fr) (a : FA) (i : Ins) (hx : FrOk x) (hk : i.kind = 26) (ha : 0 ≤ i.a ∧ i.a < (x.nr : Int)) (hr : ∀ r ∈ readsF i, 0 ≤ r ∧ r < (x.nr : Int)) (hg : i.args.length ≤ 1048576) :
    ACalls Tryz.prog 37 [pv s, .ep (.slice (sg g) 1 c) 0, .agg (insCells i)] ([Ent.box s 83 (psC ps (.v (.slice (sg g) 1 c))), Ent.row (sg g) 1 c 104 7 (([] : List T) ++ frC x a)] ++ frR x a) (fun t S => t = bv (okS x.set (readsF i)) ∧ S = ([Ent.box s 83 (psC (if okS x.set (readsF i) = true then backP ps (rA x i.a) else ps) (.v (.slice (sg g) 1 c))), Ent.row (sg g) 1 c 104 7 (([] : List T) ++ frC x a)] ++ frR x a)) := by
 refine lsr (R := (fun t S => t = bv (okS x.set (readsF i)) ∧ ([Ent.box s 83 (psC (if okS x.set (readsF i) = true then backP ps (rA x i.a) else ps) (.v (.slice (sg g) 1 c))), Ent.row (sg g) 1 c 104 7 (([] : List T) ++ frC x a)] ++ frR x a).Sublist S)) (fun t S' ⟨h1, h2⟩ => ⟨_, h2, h1, rfl⟩) ?_
 refine ai Tryz.func37 Tryz.ntmps37 fun X w0 => ?_
 refine rs ?_
 refine bx fun b4 => ?_
 refine bx fun b5 => ?_
 refine y1 ?_
 refine nl (rs ?_)
 refine bx fun b7 => ?_
 refine y1 ?_
 refine nl (rs (y1 ?_))
 refine Y1 (Yv.makeFunc rfl evs0 rfl (evsC eV (evsC eV evs0)) rfl) ?_
 refine AWL.perm (S' := [Ent.box b7 4 [bv (true)], Ent.box b4 101 [.ep (.slice (sg g) 1 c) (([] : List T)).length], Ent.row (sg g) 1 c 104 7 (([] : List T) ++ frC x a), Ent.row a.t x.nr x.nr 4 1 (x.set.map bv)] ++ ([Ent.box s 83 (psC ps (.v (.slice (sg g) 1 c))), Ent.row a.r x.nr x.nr 29 1 (x.r.map zw), Ent.row a.s x.ns x.ns 29 1 (x.slot.map zw), Ent.row a.h x.ns x.ns 4 1 (x.there.map bv), Ent.box b5 90 (insCells i)] ++ ([] : St))) pmA0 ?_
 refine kc (reads49 b7 b4 g 1 c ([] : List T) x a true i hx.t hg hr) ?_
 rintro t14 S14 ⟨rfl, rfl⟩
 refine AWL.perm (S' := ([Ent.box s 83 (psC ps (.v (.slice (sg g) 1 c))), Ent.row (sg g) 1 c 104 7 (([] : List T) ++ frC x a)] ++ frR x a) ++ ([Ent.box b4 101 [.ep (.slice (sg g) 1 c) (([] : List T)).length], Ent.box b5 90 (insCells i), Ent.box b7 4 [bv (okS x.set (readsF i))]] ++ ([] : St))) pmB0 ?_
 refine nl (sq (rs (y2 (nl ?_))))
 refine cq (fun h0t => ?_) fun h0f => ?_
 ·refine rs (y1 (nl ?_))
  refine rt ?_
  rw [show okS x.set (readsF i) = false by simpa using h0t]
  exact ⟨rfl, List.sublist_append_left _ _⟩
 have hok : okS x.set (readsF i) = true := by simpa using h0f
 refine sp (rs (y2 ?_))
 refine nl (sq (rs (y2 ?_)))
 refine nl (bk (rs (y2 (nl ?_))))
 refine cf fun _ => ?_
 refine rs (y2 (nl ?_))
 refine cf fun _ => ?_
 refine sq (rs (y2 (nl ?_)))
 refine cf fun _ => ?_
 refine rs (y2 (nl ?_))
 refine cf fun _ => ?_
 refine rs (y2 (nl ?_))
 refine cf fun _ => ?_
 refine rs (y2 (nl ?_))
 refine cf fun _ => ?_
 refine rg (y2 (nl ?_))
 refine ct fun _ => ?_
 refine rs (y3 ?_)
 refine kc (jumpsRetOne s g c ps x a i hx hk ha) ?_
 rintro t97 S97 ⟨rfl, rfl⟩
 refine y1 (nl ?_)
 refine rt ?_
 rw [hok]
 exact ⟨rfl, List.sublist_append_left _ _⟩

section
variable {L : List Ins} {n : Nat} {f : Int} {ps : PS} {x : Fr}
end
/-! ### a new process -/
def mapT (b : Nat) : T := .v (.map (some b))
def mapsE (bs : List Nat) (fs : List Fn) : St := (bs.zip fs).map fun q => .map q.1 (lmT (whL q.2.code))
theorem mapsE_succ {bs : List Nat} {fs : List Fn} {j b : Nat} (h : j < fs.length) (hb : bs.length = j) : mapsE (bs ++ [b]) (fs.take (j + 1)) = mapsE bs (fs.take j) ++ [.map b (lmT (whL (fs.getD j default).code))] := by
 unfold mapsE
 rw [take_gd h, List.zip_append (by rw [hb, List.length_take]; omega), List.map_append]
 rfl
def psN (p : Prog) (lab : T) (heap : Wd64) (strict : Bool) (w pg : T) : PS := ⟨p, lab, heap, strict, w, pg, false, 0, 0#64, 0, 0⟩
def famL : Fam := [some [false, false, false], some [true, false, false], some [true, true, false], some [true, true, true]]
theorem little_strict : checkR little = 0 ∧ ∀ f ∈ little.funs, StrictF f := by
 refine ⟨by kernel_rfl, fun g hg => ?_⟩
 cases List.mem_singleton.1 hg
 refine ⟨famL, ⟨rfl, fun k a h => ?_, ⟨_, rfl, leB.refl _⟩, fun k a hk h l hl => ?_⟩, fun k a hk h => ?_⟩
 ·have : k = 0 ∨ k = 1 ∨ k = 2 ∨ k = 3 ∨ 4 ≤ k := by omega
  rcases this with rfl | rfl | rfl | rfl | h4
  ·cases h; rfl
  ·cases h; rfl
  ·cases h; rfl
  ·cases h; rfl
  exfalso
  unfold famAt famL at h
  simp only [List.getD_eq_getElem?_getD] at h
  rw [List.getElem?_eq_none (by simpa using h4)] at h
  cases h
 ·have hk' : k < 4 := hk
  have : k = 0 ∨ k = 1 ∨ k = 2 ∨ k = 3 := by omega
  rcases this with rfl | rfl | rfl | rfl
  ·cases h
   have hl' : l ∈ [(1 : Int)] := hl
   rw [List.mem_singleton] at hl'
   subst hl'; exact leB.refl _
  ·cases h
   have hl' : l ∈ [(2 : Int)] := hl
   rw [List.mem_singleton] at hl'
   subst hl'; exact leB.refl _
  ·cases h
   have hl' : l ∈ [(3 : Int)] := hl
   rw [List.mem_singleton] at hl'
   subst hl'; exact leB.refl _
  cases h
  have hl' : l ∈ ([] : List Int) := hl
  cases hl'
 have hk' : k < 4 := hk
 have : k = 0 ∨ k = 1 ∨ k = 2 ∨ k = 3 := by omega
 rcases this with rfl | rfl | rfl | rfl <;> (cases h; rfl)
def emptyP : Prog := ⟨[], [], 0⟩
theorem empty_in : ProgIn emptyP := ⟨by decide, by decide, fun f hf => (by cases hf), by decide, by decide, by decide⟩
theorem empty_check : checkW emptyP = 130 := by kernel_rfl
theorem little_check : checkW little = 0 := by kernel_rfl

theorem pmN {α : Type} {a0 a1 a2 a3 : α} {Z : List α} : (a2 :: a0 :: a1 :: a3 :: Z).Perm (a0 :: a1 :: a2 :: a3 :: Z) := pk

theorem Steps16 (s : Nat) (ps : PS) (cl : T) :
    ACalls Tryz.prog 23 [pv s] [.box s 83 (psC ps cl)] (fun t S => t = zi ps.steps ∧ S = [.box s 83 (psC ps cl)]) := by
 refine ai Tryz.func23 Tryz.ntmps23 fun X w0 => ?_
 refine rs (y1 ?_)
 refine nl (sq (rs (y2 (nl ?_))))
 refine cq (fun h0t => ?_) fun _ => ?_
 ·cases h0t
 refine sp (rs (y5 (nl ?_)))
 refine rt ?_
 exact ⟨rfl, rfl⟩

theorem Code17 (s : Nat) (ps : PS) (cl : T) :
    ACalls Tryz.prog 22 [pv s] [.box s 83 (psC ps cl)] (fun t S => t = zi ps.code ∧ S = [.box s 83 (psC ps cl)]) := by
 refine ai Tryz.func22 Tryz.ntmps22 fun X w0 => ?_
 refine rs (y1 ?_)
 refine nl (sq (rs (y2 (nl ?_))))
 refine cq (fun h0t => ?_) fun _ => ?_
 ·cases h0t
 refine sp (rs (y5 (nl ?_)))
 refine rt ?_
 exact ⟨rfl, rfl⟩

theorem knownE : ACalls Tryz.prog 34 [littleRaw] [] (fun t S => t = bv true) :=
 ((Strict9 little little_in).mono fun t S ⟨b, h, hb⟩ => by rw [h, hb.2 little_strict]).le (.cons little_le .refl)
theorem knownF : ACalls Tryz.prog 26 [.agg [nilT, nilT, zi 0]] [] (fun t S => t = zi 130) :=
 ((Check6 emptyP empty_in).mono fun t S h => by rw [h, empty_check]).le (.cons (Le.agg (.cons (nil_le 5) (.cons (nil_le 1) .refl))) .refl)
structure Pg where
 n : Wd64
 b : Nat
 bs : List UInt8
deriving Inhabited
def wk (n : Wd64) : Key := .i .u64 (n.toNat : Int)
theorem wk_inj {n m : Wd64} (h : wk n = wk m) : n = m := by
 unfold wk at h
 injection h with _ h
 exact BitVec.eq_of_toNat_eq (by omega)
def pgT (l : List Pg) : List (Key × T) := l.map fun p => (wk p.n, .v (.pointer (some ⟨p.b, 0, none⟩)))
def pgI (n : Wd64) : List Pg → Option Nat
 | [] => none
 | p :: r => if p.n = n then some 0 else (pgI n r).map (· + 1)
theorem pgI_lt {n : Wd64} : ∀ {l : List Pg} {j : Nat}, pgI n l = some j → j < l.length ∧ (l.getD j default).n = n
 | [], j, h => by cases h
 | p :: r, j, h => by
  rw [pgI] at h
  split at h
  ·rename_i he
   cases h
   exact ⟨by simp, he⟩
  ·cases hq : pgI n r with
   | none => rw [hq] at h; cases h
   | some q =>
    rw [hq] at h
    simp only [Option.map_some, Option.some.injEq] at h
    subst h
    have := pgI_lt hq
    exact ⟨by simp only [List.length_cons]; omega, this.2⟩
theorem getK_pg (n : Wd64) : ∀ l : List Pg, getK (wk n) (pgT l) = (pgI n l).map fun j => .v (.pointer (some ⟨(l.getD j default).b, 0, none⟩))
 | [] => rfl
 | p :: r => by
  show getK (wk n) ((wk p.n, _) :: pgT r) = _
  rw [getK, pgI]
  by_cases h : p.n = n
  ·rw [if_pos (by rw [h]), if_pos h]; rfl
  ·rw [if_neg (fun e => h (wk_inj e)), if_neg h, getK_pg n r]
   cases pgI n r <;> rfl
theorem putK_pg (n : Wd64) (b : Nat) (bs : List UInt8) : ∀ l : List Pg, pgI n l = none → putK (wk n) (.v (.pointer (some ⟨b, 0, none⟩))) (pgT l) = pgT (l ++ [⟨n, b, bs⟩])
 | [], _ => rfl
 | p :: r, h => by
  rw [pgI] at h
  split at h
  ·cases h
  ·rename_i he
   have h' : pgI n r = none := by
    cases hq : pgI n r with
    | none => rfl
    | some q => rw [hq] at h; cases h
   show putK (wk n) _ ((wk p.n, _) :: pgT r) = _
   rw [putK, if_neg (fun e => he (wk_inj e)), putK_pg n b bs r h']
   rfl
theorem good_pg (l : List Pg) : ∀ e ∈ pgT l, goodK (.int .u64) e.1 = true := fun e he => by
 obtain ⟨p, _, rfl⟩ := List.mem_map.1 he
 rfl
def pgE (ty : TypeId) (l : List Pg) : St := l.map fun p => .box p.b ty (p.bs.map u8)
theorem pgE_at {ty : TypeId} {l : List Pg} {j : Nat} (h : j < l.length) : (pgE ty l)[j]? = some (.box (l.getD j default).b ty ((l.getD j default).bs.map u8)) := by
 rw [pgE, List.getElem?_map, List.getElem?_eq_getElem h, gd h]; rfl
theorem pgE_app (ty : TypeId) (l l' : List Pg) : pgE ty (l ++ l') = pgE ty l ++ pgE ty l' := List.map_append
def pgSet (l : List Pg) (j : Nat) (k : Nat) (x : UInt8) : List Pg := l.set j { l.getD j default with bs := (l.getD j default).bs.set k x }
theorem pgT_set {l : List Pg} {j : Nat} (h : j < l.length) (k : Nat) (x : UInt8) : pgT (pgSet l j k x) = pgT l := by
 unfold pgT pgSet
 apply List.ext_getElem?
 intro i
 rw [List.getElem?_map, List.getElem?_map, List.getElem?_set]
 split
 ·rename_i e
  subst e
  rw [List.getElem?_eq_getElem h, gd h]; rfl
 rfl
theorem pgE_set {ty : TypeId} {l : List Pg} {j : Nat} (h : j < l.length) (k : Nat) (x : UInt8) : (pgE ty l).set j (.box (l.getD j default).b ty (((l.getD j default).bs.map u8).set k (u8 x))) = pgE ty (pgSet l j k x) := by
 unfold pgE pgSet
 rw [← List.map_set, List.map_set (f := fun p : Pg => Ent.box p.b ty (p.bs.map u8))]
theorem pgI_set (n : Wd64) {l : List Pg} {j : Nat} (h : j < l.length) (k : Nat) (x : UInt8) : pgI n (pgSet l j k x) = pgI n l := by
 induction l generalizing j with
 | nil => exact absurd h (Nat.not_lt_zero j)
 | cons p r ih =>
  cases j with
  | zero => rfl
  | succ j =>
   have e : pgSet (p :: r) (j + 1) k x = p :: pgSet r j k x := rfl
   rw [e, pgI, pgI, ih (Nat.lt_of_succ_lt_succ h)]
theorem pgI_app (n : Wd64) (l : List Pg) (p : Pg) : pgI n (l ++ [p]) = match pgI n l with | some j => some j | none => if p.n = n then some l.length else none := by
 induction l with
 | nil => simp only [List.nil_append, pgI]; split <;> rfl
 | cons q r ih =>
  rw [List.cons_append, pgI, pgI, ih]
  by_cases h : q.n = n
  ·rw [if_pos h, if_pos h]
  ·rw [if_neg h, if_neg h]
   cases pgI n r with
   | some j => rfl
   | none =>
    by_cases hp : p.n = n
    ·simp only [if_pos hp, Option.map_none, Option.map_some, List.length_cons]
    ·simp only [if_neg hp, Option.map_none]
abbrev Mf := Wd64 → UInt8
def getM (l : List Pg) : Mf := fun at_ => match pgI (at_ / 4096#64) l with | some j => (l.getD j default).bs.getD (at_ % 4096#64).toNat 0 | none => 0
def updM (m : Mf) (a : Wd64) (x : UInt8) : Mf := fun z => if z = a then x else m z
def PgOk (l : List Pg) : Prop := ∀ j, j < l.length → (l.getD j default).bs.length = 4096
theorem PgOk.set {l : List Pg} (h : PgOk l) (j k : Nat) (x : UInt8) : PgOk (pgSet l j k x) := by
 intro i hi
 unfold pgSet at hi ⊢
 rw [List.length_set] at hi
 rw [List.getD_eq_getElem?_getD, List.getElem?_set]
 split
 ·rename_i e
  subst e
  rw [if_pos hi]
  show ((l.getD j default).bs.set k x).length = 4096
  rw [List.length_set]; exact h j hi
 rw [← List.getD_eq_getElem?_getD]; exact h i hi
theorem PgOk.app {l : List Pg} (h : PgOk l) {p : Pg} (hp : p.bs.length = 4096) : PgOk (l ++ [p]) := by
 intro i hi
 rw [List.length_append, List.length_singleton] at hi
 rw [List.getD_eq_getElem?_getD]
 rcases Nat.lt_or_ge i l.length with h1 | h1
 ·rw [List.getElem?_append_left h1, ← List.getD_eq_getElem?_getD]; exact h i h1
 rw [List.getElem?_append_right h1, show i - l.length = 0 by omega]; exact hp
theorem lt4096 (a : Wd64) : (a % 4096#64).toNat < 4096 := by
 rw [BitVec.toNat_umod]; exact Nat.mod_lt _ (by decide)
theorem split_eq {a z : Wd64} (h1 : z / 4096#64 = a / 4096#64) (h2 : (z % 4096#64).toNat = (a % 4096#64).toNat) : z = a := by
 apply BitVec.eq_of_toNat_eq
 have e1 := congrArg BitVec.toNat h1
 rw [BitVec.toNat_udiv, BitVec.toNat_udiv] at e1
 rw [BitVec.toNat_umod, BitVec.toNat_umod] at h2
 have n4 : (4096#64 : Wd64).toNat = 4096 := rfl
 rw [n4] at e1 h2
 have := Nat.div_add_mod z.toNat 4096
 have := Nat.div_add_mod a.toNat 4096
 omega
theorem get_set {l : List Pg} {a : Wd64} {j : Nat} (hj : pgI (a / 4096#64) l = some j) (hl : PgOk l) (x : UInt8) : getM (pgSet l j (a % 4096#64).toNat x) = updM (getM l) a x := by
 obtain ⟨hlt, hn⟩ := pgI_lt hj
 have hlen := hl j hlt
 funext z
 unfold getM updM
 rw [pgI_set _ hlt]
 by_cases hz : z = a
 ·subst hz
  rw [if_pos rfl, hj]
  show ((pgSet l j _ x).getD j default).bs.getD _ 0 = x
  unfold pgSet
  rw [List.getD_eq_getElem?_getD (l := l.set j _), List.getElem?_set_self hlt]
  show ((l.getD j default).bs.set _ x).getD _ 0 = x
  rw [List.getD_eq_getElem?_getD, List.getElem?_set_self (by rw [hlen]; exact lt4096 z)]; rfl
 rw [if_neg hz]
 cases hq : pgI (z / 4096#64) l with
 | none => simp only [hq]
 | some i =>
  simp only [hq]
  obtain ⟨hi, hin⟩ := pgI_lt hq
  show ((pgSet l j _ x).getD i default).bs.getD _ 0 = (l.getD i default).bs.getD _ 0
  unfold pgSet
  rw [List.getD_eq_getElem?_getD (l := l.set j _), List.getElem?_set]
  split
  ·rename_i e
   subst e
   show ((l.getD j default).bs.set _ x).getD _ 0 = _
   rw [List.getD_eq_getElem?_getD, List.getElem?_set_ne, ← List.getD_eq_getElem?_getD]
   intro e2
   exact hz (split_eq (hin.symm.trans hn) e2.symm)
  ·rw [← List.getD_eq_getElem?_getD]
def zeros4 : List UInt8 := List.replicate 4096 0
theorem get_new {l : List Pg} {a : Wd64} (b : Nat) (hj : pgI (a / 4096#64) l = none) : getM (l ++ [⟨a / 4096#64, b, zeros4⟩]) = getM l := by
 funext z
 unfold getM
 rw [pgI_app]
 cases hq : pgI (z / 4096#64) l with
 | some j =>
  have := (pgI_lt hq).1
  show ((l ++ [_]).getD j default).bs.getD _ 0 = (l.getD j default).bs.getD _ 0
  rw [List.getD_eq_getElem?_getD (l := l ++ _), List.getElem?_append_left this, ← List.getD_eq_getElem?_getD]
 | none =>
  by_cases h : a / 4096#64 = z / 4096#64
  ·simp only [if_pos h]
   rw [List.getD_eq_getElem?_getD (l := l ++ _), List.getElem?_append_right (Nat.le_refl _), Nat.sub_self]
   show zeros4.getD _ 0 = 0
   unfold zeros4
   rw [List.getD_eq_getElem?_getD, List.getElem?_replicate]
   split <;> rfl
  ·simp only [if_neg h]
theorem new_I {l : List Pg} {a : Wd64} (b : Nat) (hj : pgI (a / 4096#64) l = none) : pgI (a / 4096#64) (l ++ [⟨a / 4096#64, b, zeros4⟩]) = some l.length := by
 rw [pgI_app, hj]; simp
def memE (ty : TypeId) (pg : Nat) (l : List Pg) : St := .map pg (pgT l) :: pgE ty l
def bw (x : UInt8) : Wd64 := wI (x.toNat : Int)
def lowB (x : Wd64) : UInt8 := UInt8.ofNat x.toNat
def leF (m : Mf) (a : Wd64) : Nat → Wd64
 | 0 => 0#64
 | n + 1 => leF m a n ||| (bw (m (a + wI (n : Int))) <<< (8 * n))
def putsF (m : Mf) (a x : Wd64) : Nat → Mf
 | 0 => m
 | n + 1 => updM (putsF m a x n) (a + wI (n : Int)) (lowB (x >>> (8 * n)))
theorem low_u8 (x : Wd64) : T.v (.int .u8 (IntKind.u8.wrap (x.toNat : Int))) = u8 (lowB x) := by
 unfold u8 lowB
 congr 2
def inF (at_ n base size : Wd64) : Bool := (decide (base ≤ at_) && decide (at_ - base ≤ size)) && decide (n ≤ size - (at_ - base))
def thereF (data heap at_ n : Wd64) : Bool := inF at_ n 268435456#64 data || inF at_ n 1073741824#64 heap
def sizeOk (z : Int) : Bool := decide (z = 1) || decide (z = 4) || decide (z = 8)
def psData (p : Prog) : Wd64 := wI ((p.data.length : Int) + p.zero)
end Go.Proofs.YtlfklgganokgdaaGreat
